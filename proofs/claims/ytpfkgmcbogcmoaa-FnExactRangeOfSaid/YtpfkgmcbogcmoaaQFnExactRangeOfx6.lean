-- Written by a program of this session (mk.py). Lean checks it.
import Derived.Test.YtpfkgmcbogcmoaaQFnExactRangeOfx0
import Derived.Test.YtpfkgmcbogcmoaaQFnExactRangeOfx5
namespace Go.Proofs.Ytpfkgmcbogcmoaa.QFnExactRangeOf
open Go.RowKit Go.Proofs.YtpfkgmcbogcmoaaW.PrintWords Go.Proofs.YtpfkgmcbogcmoaaW.PrintLast Go.Proofs.YtpfkgmcbogcmoaaW.PrintMore
attribute [local go_sem] max2_int min2_int max_two min_two max_three min_three max_four min_four   -- for this text's walks alone
set_option linter.unusedVariables false
set_option linter.unusedSimpArgs false

/-! ### spec_l1Between: function 74 -/
def spec_l1Between.f (k : Nat) (a0 : Int) (l1 : List Int) (l2 : List Int) : Option (List Int) := if a0 = 2 then (if 0 < (l1.length : Int) then (if 0 < (l2.length : Int) then ((spec_l1Held.f (wrap64 ((rd l1 0) + (rd l2 0)))).bind fun t169 => (if 1 < (l1.length : Int) then (if 1 < (l2.length : Int) then ((spec_l1Held.f (wrap64 ((rd l1 1) + (rd l2 1)))).bind fun t172 => (some (([t169, t172] : List Int)))) else (none)) else (none))) else (none)) else (none)) else (if a0 = 3 then (if 0 < (l1.length : Int) then (if 1 < (l2.length : Int) then ((spec_l1Held.f (wrap64 ((rd l1 0) - (rd l2 1)))).bind fun t178 => (if 1 < (l1.length : Int) then (if 0 < (l2.length : Int) then ((spec_l1Held.f (wrap64 ((rd l1 1) - (rd l2 0)))).bind fun t181 => (some (([t178, t181] : List Int)))) else (none)) else (none))) else (none)) else (none)) else (if a0 = 4 then (if 0 < (l1.length : Int) then (if 0 < (l2.length : Int) then (if 1 < (l2.length : Int) then (if 1 < (l1.length : Int) then ((spec_l1Four.f k (wrap64 ((rd l1 0) * (rd l2 0))) (wrap64 ((rd l1 0) * (rd l2 1))) (wrap64 ((rd l1 1) * (rd l2 0))) (wrap64 ((rd l1 1) * (rd l2 1)))).bind fun t193 => (if 0 < (t193.length : Int) then ((spec_l1Held.f (rd t193 0)).bind fun t197 => (if 1 < (t193.length : Int) then ((spec_l1Held.f (rd t193 1)).bind fun t199 => (some (([t197, t199] : List Int)))) else (none))) else (none))) else (none)) else (none)) else (none)) else (none)) else (if a0 = 5 then (if 1 < (l1.length : Int) then (if 0 < (l2.length : Int) then ((spec_l1Truth.f (decide ((rd l1 1) < (rd l2 0)))).bind fun t205 => (if 0 < (l1.length : Int) then (if 1 < (l2.length : Int) then ((spec_l1Truth.f (decide ((rd l1 0) < (rd l2 1)))).bind fun t208 => (some (([t205, t208] : List Int)))) else (none)) else (none))) else (none)) else (none)) else (if a0 = 6 then (if 0 < (l1.length : Int) then (if 1 < (l1.length : Int) then (if (rd l1 0) = (rd l1 1) then (if 0 < (l2.length : Int) then (if 1 < (l2.length : Int) then (if (rd l2 0) = (rd l2 1) then ((spec_l1Truth.f ((rd l1 0) == (rd l2 0))).bind fun t218 => (if (rd l1 0) ≤ (rd l2 1) then ((spec_l1Truth.f (decide ((rd l2 0) ≤ (rd l1 1)))).bind fun t223 => (some (([t218, t223] : List Int)))) else ((spec_l1Truth.f false).bind fun t227 => (some (([t218, t227] : List Int)))))) else ((spec_l1Truth.f false).bind fun t231 => (if (rd l1 0) ≤ (rd l2 1) then ((spec_l1Truth.f (decide ((rd l2 0) ≤ (rd l1 1)))).bind fun t236 => (some (([t231, t236] : List Int)))) else ((spec_l1Truth.f false).bind fun t240 => (some (([t231, t240] : List Int))))))) else (none)) else (none)) else ((spec_l1Truth.f false).bind fun t244 => (if 1 < (l2.length : Int) then (if (rd l1 0) ≤ (rd l2 1) then (if 0 < (l2.length : Int) then ((spec_l1Truth.f (decide ((rd l2 0) ≤ (rd l1 1)))).bind fun t249 => (some (([t244, t249] : List Int)))) else (none)) else ((spec_l1Truth.f false).bind fun t253 => (some (([t244, t253] : List Int))))) else (none)))) else (none)) else (none)) else (if a0 = 7 then (if 1 < (l1.length : Int) then (if 0 < (l1.length : Int) then (some (([wrap64 (1 - (rd l1 1)), wrap64 (1 - (rd l1 0))] : List Int))) else (none)) else (none)) else (if 0 < (l1.length : Int) then (if 0 < (l2.length : Int) then ((spec_l1Do.f a0 (rd l1 0) (rd l2 0)).bind fun t264 => (if 1 < (l1.length : Int) then (if 1 < (l2.length : Int) then ((spec_l1Do.f a0 (rd l1 1) (rd l2 1)).bind fun t267 => (some (([t264, t267] : List Int)))) else (none)) else (none))) else (none)) else (none)))))))
theorem spec_l1Between.mono : ∀ a0 a1 a2 k, LeO (spec_l1Between.f k a0 a1 a2) (spec_l1Between.f (k + 1) a0 a1 a2) := by
 intro a0 a1 a2 k
 unfold spec_l1Between.f
 repeat' first
   | (with_reducible exact spec_l1Four.mono _ _ _ _ _)
   | (with_reducible exact LeO.refl _)
   | (with_reducible exact LeO.none _)
   | (with_reducible refine LeO.ite ?_ ?_)
   | (with_reducible refine LeO.bind ?_ (fun _ => ?_))
   | exact spec_l1Four.mono _ _ _ _ _
   | exact LeO.none _
   | refine LeO.ite ?_ ?_
   | refine LeO.bind ?_ (fun _ => ?_)
def spec_l1Between.T2 : Bool × List (List Nat × List Nat) := (true, [([], []), ([0], [0]), ([1], [1]), ([], []), ([3], [3]), ([4], [4]), ([2, 5], [2, 5]), ([6], [6]), ([], []), ([8], [8]), ([9], [9]), ([], []), ([11], [11]), ([12], [12]), ([10, 13], [10, 13]), ([14, 7], [14]), ([7, 15], [7, 15]), ([16, 15, 0, 1, 2, 3, 4, 5, 6, 7, 8, 9, 10, 11, 12, 13, 14, 15, 16], [16])])
def spec_l1Between.B2 : List Nat := [0, 1, 3, 0, 8, 24, 63, 127, 0, 256, 768, 0, 2048, 6144, 16128, 32767, 65535, 131071]
theorem spec_l1Between.tab2 : rtab .any (opsOf Try.f74 2) = spec_l1Between.T2 := by kernel_rfl
theorem spec_l1Between.bits2 : waitsOk spec_l1Between.T2.2 spec_l1Between.B2 = true := by kernel_rfl
def spec_l1Between.T4 : Bool × List (List Nat × List Nat) := (true, [([], []), ([0], [0]), ([1], [1]), ([], []), ([3], [3]), ([4], [4]), ([2, 5], [2, 5]), ([6], [6]), ([], []), ([8], [8]), ([9], [9]), ([], []), ([11], [11]), ([12], [12]), ([10, 13], [10, 13]), ([14, 7], [14]), ([7, 15], [7, 15]), ([16, 15, 0, 1, 2, 3, 4, 5, 6, 7, 8, 9, 10, 11, 12, 13, 14, 15, 16], [16])])
def spec_l1Between.B4 : List Nat := [0, 1, 3, 0, 8, 24, 63, 127, 0, 256, 768, 0, 2048, 6144, 16128, 32767, 65535, 131071]
theorem spec_l1Between.tab4 : rtab .any (opsOf Try.f74 4) = spec_l1Between.T4 := by kernel_rfl
theorem spec_l1Between.bits4 : waitsOk spec_l1Between.T4.2 spec_l1Between.B4 = true := by kernel_rfl
def spec_l1Between.T6 : Bool × List (List Nat × List Nat) := (true, [([], []), ([0], [0]), ([1], [1]), ([], []), ([3], [3]), ([4], [4]), ([2, 5], [2, 5]), ([], []), ([7], [7]), ([8], [8]), ([], []), ([10], [10]), ([11], [11]), ([9, 12], [9, 12]), ([], []), ([14], [14]), ([15], [15]), ([], []), ([17], [17]), ([18], [18]), ([16, 19], [16, 19]), ([], []), ([21], [21]), ([22], [22]), ([], []), ([24], [24]), ([25], [25]), ([23, 26], [23, 26]), ([6, 13, 20, 27], [6, 13, 20, 27]), ([28, 28, 0, 1, 2, 3, 4, 5, 6, 7, 8, 9, 10, 11, 12, 13, 14, 15, 16, 17, 18, 19, 20, 21, 22, 23, 24, 25, 26, 27, 28], [28])])
def spec_l1Between.B6 : List Nat := [0, 1, 3, 0, 8, 24, 63, 0, 128, 384, 0, 1024, 3072, 8064, 0, 16384, 49152, 0, 131072, 393216, 1032192, 0, 2097152, 6291456, 0, 16777216, 50331648, 132120576, 268435455, 536870911]
theorem spec_l1Between.tab6 : rtab .any (opsOf Try.f74 6) = spec_l1Between.T6 := by kernel_rfl
theorem spec_l1Between.bits6 : waitsOk spec_l1Between.T6.2 spec_l1Between.B6 = true := by kernel_rfl
def spec_l1Between.T7 : Bool × List (List Nat × List Nat) := (true, [([], []), ([0], [0]), ([1], [1]), ([2], [2]), ([], []), ([4], [4]), ([5], [5]), ([6, 3], [6]), ([3, 7], [3, 7]), ([8, 7, 0, 1, 2, 3, 4, 5, 6, 7, 8], [8])])
def spec_l1Between.B7 : List Nat := [0, 1, 3, 7, 0, 16, 48, 127, 255, 511]
theorem spec_l1Between.tab7 : rtab .any (opsOf Try.f74 7) = spec_l1Between.T7 := by kernel_rfl
theorem spec_l1Between.bits7 : waitsOk spec_l1Between.T7.2 spec_l1Between.B7 = true := by kernel_rfl
def spec_l1Between.T9 : Bool × List (List Nat × List Nat) := (true, [([], []), ([0], [0]), ([1], [1]), ([], []), ([3], [3]), ([4], [4]), ([2, 5], [2, 5]), ([6], [6]), ([], []), ([8], [8]), ([9], [9]), ([], []), ([11], [11]), ([12], [12]), ([10, 13], [10, 13]), ([14, 7], [14]), ([7, 15], [7, 15]), ([16, 15, 0, 1, 2, 3, 4, 5, 6, 7, 8, 9, 10, 11, 12, 13, 14, 15, 16], [16])])
def spec_l1Between.B9 : List Nat := [0, 1, 3, 0, 8, 24, 63, 127, 0, 256, 768, 0, 2048, 6144, 16128, 32767, 65535, 131071]
theorem spec_l1Between.tab9 : rtab .any (opsOf Try.f74 9) = spec_l1Between.T9 := by kernel_rfl
theorem spec_l1Between.bits9 : waitsOk spec_l1Between.T9.2 spec_l1Between.B9 = true := by kernel_rfl
def spec_l1Between.T11 : Bool × List (List Nat × List Nat) := (true, [([], []), ([0], [0]), ([1], [1]), ([], []), ([3], [3]), ([4], [4]), ([2, 5], [2, 5]), ([6], [6]), ([7], [7]), ([8, 7], [7, 8]), ([9, 7], [7, 9]), ([7], [7]), ([11, 7], [7, 11]), ([12, 7], [7, 12]), ([10, 13, 7], [7, 10, 13]), ([7, 14], [7, 14]), ([15, 7], [15]), ([16], [16]), ([17, 16], [16, 17]), ([18, 16], [16, 18]), ([16], [16]), ([20, 16], [16, 20]), ([21, 16], [16, 21]), ([19, 22, 16], [16, 19, 22]), ([16, 23], [16, 23]), ([24, 16], [24]), ([], []), ([26], [26]), ([27], [27]), ([], []), ([29], [29]), ([30], [30]), ([28, 31], [28, 31]), ([32, 25], [32]), ([33], [33]), ([34, 33], [33, 34]), ([35, 33], [33, 35]), ([33], [33]), ([37, 33], [33, 37]), ([38, 33], [33, 38]), ([36, 39, 33], [33, 36, 39]), ([33, 40], [33, 40]), ([41, 33], [41]), ([25, 42], [25, 42]), ([43, 42, 0, 1, 2, 3, 4, 5, 6, 7, 8, 9, 10, 11, 12, 13, 14, 15, 16, 17, 18, 19, 20, 21, 22, 23, 24, 25, 26, 27, 28, 29, 30, 31, 32, 33, 34, 35, 36, 37, 38, 39, 40, 41, 42, 43], [43])])
def spec_l1Between.B11 : List Nat := [0, 1, 3, 0, 8, 24, 63, 127, 255, 511, 1023, 255, 2303, 6399, 16383, 32767, 65535, 131071, 262143, 524287, 131071, 1179647, 3276799, 8388607, 16777215, 33554431, 0, 67108864, 201326592, 0, 536870912, 1610612736, 4227858432, 8589934591, 17179869183, 34359738367, 68719476735, 17179869183, 154618822655, 429496729599, 1099511627775, 2199023255551, 4398046511103, 8796093022207, 17592186044415]
theorem spec_l1Between.tab11 : rtab .any (opsOf Try.f74 11) = spec_l1Between.T11 := by kernel_rfl
theorem spec_l1Between.bits11 : waitsOk spec_l1Between.T11.2 spec_l1Between.B11 = true := by kernel_rfl
def spec_l1Between.T13 : Bool × List (List Nat × List Nat) := (true, [([], []), ([0], [0]), ([1], [1]), ([2], [2]), ([], []), ([4], [4]), ([5], [5]), ([6], [6]), ([3, 7], [3, 7]), ([8, 0, 1, 2, 3, 4, 5, 6, 7, 8], [8])])
def spec_l1Between.B13 : List Nat := [0, 1, 3, 7, 0, 16, 48, 112, 255, 511]
theorem spec_l1Between.tab13 : rtab .any (opsOf Try.f74 13) = spec_l1Between.T13 := by kernel_rfl
theorem spec_l1Between.bits13 : waitsOk spec_l1Between.T13.2 spec_l1Between.B13 = true := by kernel_rfl
def spec_l1Between.T14 : Bool × List (List Nat × List Nat) := (true, [([], []), ([], []), ([1], [1]), ([2], [2]), ([], []), ([4], [4]), ([5], [5]), ([0, 3, 6], [0, 3, 6]), ([], []), ([], []), ([9], [9]), ([10], [10]), ([], []), ([12], [12]), ([13], [13]), ([8, 11, 14, 7], [8, 11, 14]), ([7, 15], [7, 15]), ([16, 15, 0, 1, 2, 3, 4, 5, 6, 7, 8, 9, 10, 11, 12, 13, 14, 15, 16], [16])])
def spec_l1Between.B14 : List Nat := [0, 0, 2, 6, 0, 16, 48, 127, 0, 0, 512, 1536, 0, 4096, 12288, 32767, 65535, 131071]
theorem spec_l1Between.tab14 : rtab .any (opsOf Try.f74 14) = spec_l1Between.T14 := by kernel_rfl
theorem spec_l1Between.bits14 : waitsOk spec_l1Between.T14.2 spec_l1Between.B14 = true := by kernel_rfl
set_option maxHeartbeats 8000000 in
set_option maxRecDepth 100000 in
theorem spec_l1Between.calls (k : Nat) (a0 : Int) (A1 : Option Addr) (c1 : Nat) (l1 : List Int) (A2 : Option Addr) (c2 : Nat) (l2 : List Int) (r : List Int) (w : World) (hr1 : Kd.C (Kd.int .i64) w A1 l1.length l1) (hc1 : l1.length ≤ c1) (hr2 : Kd.C (Kd.int .i64) w A2 l2.length l2) (hc2 : l2.length ≤ c2) (h : spec_l1Between.f k a0 l1 l2 = some r) :
  Calls Try.prog 74 #[.int .i64 a0, .slice A1 l1.length c1, .slice A2 l2.length c2] w fun e w' => ∃ v0_ : Value, e = .returned (v0_) ∧ Kd.R (Kd.int .i64) 3 w' w.heap.size (fun _ => True) v0_ r ∧ Below w.heap.size w w' := by
 have HR1 := Aside0.mk hr1
 have HC1 := Aside0.mk hc1
 clear hr1 hc1
 have HR2 := Aside0.mk hr2
 have HC2 := Aside0.mk hc2
 clear hr2 hc2
 have HB := Aside0.mk (Below.refl w.heap.size w)
 have H : (if a0 = 2 then (if 0 < (l1.length : Int) then (if 0 < (l2.length : Int) then ((spec_l1Held.f (wrap64 ((rd l1 0) + (rd l2 0)))).bind fun t169 => (if 1 < (l1.length : Int) then (if 1 < (l2.length : Int) then ((spec_l1Held.f (wrap64 ((rd l1 1) + (rd l2 1)))).bind fun t172 => (some (([t169, t172] : List Int)))) else (none)) else (none))) else (none)) else (none)) else (if a0 = 3 then (if 0 < (l1.length : Int) then (if 1 < (l2.length : Int) then ((spec_l1Held.f (wrap64 ((rd l1 0) - (rd l2 1)))).bind fun t178 => (if 1 < (l1.length : Int) then (if 0 < (l2.length : Int) then ((spec_l1Held.f (wrap64 ((rd l1 1) - (rd l2 0)))).bind fun t181 => (some (([t178, t181] : List Int)))) else (none)) else (none))) else (none)) else (none)) else (if a0 = 4 then (if 0 < (l1.length : Int) then (if 0 < (l2.length : Int) then (if 1 < (l2.length : Int) then (if 1 < (l1.length : Int) then ((spec_l1Four.f k (wrap64 ((rd l1 0) * (rd l2 0))) (wrap64 ((rd l1 0) * (rd l2 1))) (wrap64 ((rd l1 1) * (rd l2 0))) (wrap64 ((rd l1 1) * (rd l2 1)))).bind fun t193 => (if 0 < (t193.length : Int) then ((spec_l1Held.f (rd t193 0)).bind fun t197 => (if 1 < (t193.length : Int) then ((spec_l1Held.f (rd t193 1)).bind fun t199 => (some (([t197, t199] : List Int)))) else (none))) else (none))) else (none)) else (none)) else (none)) else (none)) else (if a0 = 5 then (if 1 < (l1.length : Int) then (if 0 < (l2.length : Int) then ((spec_l1Truth.f (decide ((rd l1 1) < (rd l2 0)))).bind fun t205 => (if 0 < (l1.length : Int) then (if 1 < (l2.length : Int) then ((spec_l1Truth.f (decide ((rd l1 0) < (rd l2 1)))).bind fun t208 => (some (([t205, t208] : List Int)))) else (none)) else (none))) else (none)) else (none)) else (if a0 = 6 then (if 0 < (l1.length : Int) then (if 1 < (l1.length : Int) then (if (rd l1 0) = (rd l1 1) then (if 0 < (l2.length : Int) then (if 1 < (l2.length : Int) then (if (rd l2 0) = (rd l2 1) then ((spec_l1Truth.f ((rd l1 0) == (rd l2 0))).bind fun t218 => (if (rd l1 0) ≤ (rd l2 1) then ((spec_l1Truth.f (decide ((rd l2 0) ≤ (rd l1 1)))).bind fun t223 => (some (([t218, t223] : List Int)))) else ((spec_l1Truth.f false).bind fun t227 => (some (([t218, t227] : List Int)))))) else ((spec_l1Truth.f false).bind fun t231 => (if (rd l1 0) ≤ (rd l2 1) then ((spec_l1Truth.f (decide ((rd l2 0) ≤ (rd l1 1)))).bind fun t236 => (some (([t231, t236] : List Int)))) else ((spec_l1Truth.f false).bind fun t240 => (some (([t231, t240] : List Int))))))) else (none)) else (none)) else ((spec_l1Truth.f false).bind fun t244 => (if 1 < (l2.length : Int) then (if (rd l1 0) ≤ (rd l2 1) then (if 0 < (l2.length : Int) then ((spec_l1Truth.f (decide ((rd l2 0) ≤ (rd l1 1)))).bind fun t249 => (some (([t244, t249] : List Int)))) else (none)) else ((spec_l1Truth.f false).bind fun t253 => (some (([t244, t253] : List Int))))) else (none)))) else (none)) else (none)) else (if a0 = 7 then (if 1 < (l1.length : Int) then (if 0 < (l1.length : Int) then (some (([wrap64 (1 - (rd l1 1)), wrap64 (1 - (rd l1 0))] : List Int))) else (none)) else (none)) else (if 0 < (l1.length : Int) then (if 0 < (l2.length : Int) then ((spec_l1Do.f a0 (rd l1 0) (rd l2 0)).bind fun t264 => (if 1 < (l1.length : Int) then (if 1 < (l2.length : Int) then ((spec_l1Do.f a0 (rd l1 1) (rd l2 1)).bind fun t267 => (some (([t264, t267] : List Int)))) else (none)) else (none))) else (none)) else (none)))))))) = some r := h
 clear h
 by_cases c4 : a0 = 2
 ·rw [if_pos c4] at H
  have c4b0 : (a0 == 2) = true := beq_iff_eq.mpr c4
  have c4b1 : (a0 != 2) = false := bne_eq_false_iff_eq.mpr c4
  clear c4
  by_cases c5 : 0 < (l1.length : Int)
  ·rw [if_pos c5] at H
   have c5b0 : decide (0 < (l1.length : Int)) = true := decide_eq_true c5
   have c5b1 : decide (0 < l1.length) = true := decide_eq_true (by omega)
   clear c5
   by_cases c6 : 0 < (l2.length : Int)
   ·rw [if_pos c6] at H
    have c6b0 : decide (0 < (l2.length : Int)) = true := decide_eq_true c6
    have c6b1 : decide (0 < l2.length) = true := decide_eq_true (by omega)
    clear c6
    replace H := Option.bind_eq_some_iff.mp H
    obtain ⟨t169, A70, H⟩ := H
    replace H : (if 1 < (l1.length : Int) then (if 1 < (l2.length : Int) then ((spec_l1Held.f (wrap64 ((rd l1 1) + (rd l2 1)))).bind fun t172 => (some (([t169, t172] : List Int)))) else (none)) else (none)) = some r := H
    have A7 := Aside0.mk A70
    clear A70
    by_cases c8 : 1 < (l1.length : Int)
    ·rw [if_pos c8] at H
     have c8b0 : decide (1 < (l1.length : Int)) = true := decide_eq_true c8
     have c8b1 : decide (1 < l1.length) = true := decide_eq_true (by omega)
     clear c8
     by_cases c9 : 1 < (l2.length : Int)
     ·rw [if_pos c9] at H
      have c9b0 : decide (1 < (l2.length : Int)) = true := decide_eq_true c9
      have c9b1 : decide (1 < l2.length) = true := decide_eq_true (by omega)
      clear c9
      replace H := Option.bind_eq_some_iff.mp H
      obtain ⟨t172, A100, H⟩ := H
      replace H : (some (([t169, t172] : List Int))) = some r := H
      have A10 := Aside0.mk A100
      clear A100
      obtain ⟨y173, hy173⟩ : ∃ y_ : List Int, y_ = (([t169, t172] : List Int)) := ⟨_, rfl⟩
      replace H : (some y173) = some r := by first | (rw [hy173]; with_reducible exact H) | (have H2_ := (Option.bind_some _ _).symm.trans H; rw [hy173]; with_reducible exact H2_) | (have H2_ := (Option.bind_some _ _).symm.trans H; with_reducible exact H2_) | with_reducible exact H | (rw [hy173]; exact H) | exact H
      have Ny173 := Aside0.mk hy173
      clear hy173
      obtain rfl := Option.some.inj H
      go_enter Try.func74, Try.ntmps74
      try go_wp2
      have n0_ := Aside0.mk (below_drew1 HB.out)
      clear HB
      have HB := n0_
      clear n0_
      have p167 : 0 ≤ (0 : Int) := (by omega)
      have q167 : 0 < (l1.length : Int) := of_decide_eq_true (by first | (with_reducible assumption) | assumption)
      obtain ⟨ad167, e167, hx167_0⟩ := Kd.at_int HR1.out 0 p167 q167
      have hw167_0 := hx167_0
      (try rw [show ((0 : Int)).toNat = 0 from rfl] at hw167_0)
      (try rw [show 0 * 1 = 0 from rfl] at hw167_0)
      (try rw [Addr.add_zero'] at hw167_0)
      cases e167
      have qi167 : (0 < l1.length) = True := eq_true (by omega)
      (try rw [show ((0 : Int)).toNat = 0 from rfl] at hx167_0)
      (try rw [Addr.add_zero'] at hx167_0)
      try replace hx167_0 := (HB.out.cell (World.block_lt_of_cell? w _ hx167_0)).trans hx167_0
      replace p167 := eq_true p167
      replace q167 := eq_true q167
      have p168 : 0 ≤ (0 : Int) := (by omega)
      have q168 : 0 < (l2.length : Int) := of_decide_eq_true (by first | (with_reducible assumption) | assumption)
      obtain ⟨ad168, e168, hx168_0⟩ := Kd.at_int HR2.out 0 p168 q168
      have hw168_0 := hx168_0
      (try rw [show ((0 : Int)).toNat = 0 from rfl] at hw168_0)
      (try rw [show 0 * 1 = 0 from rfl] at hw168_0)
      (try rw [Addr.add_zero'] at hw168_0)
      cases e168
      have qi168 : (0 < l2.length) = True := eq_true (by omega)
      (try rw [show ((0 : Int)).toNat = 0 from rfl] at hx168_0)
      (try rw [Addr.add_zero'] at hx168_0)
      try replace hx168_0 := (HB.out.cell (World.block_lt_of_cell? w _ hx168_0)).trans hx168_0
      replace p168 := eq_true p168
      replace q168 := eq_true q168
      have p170 : 0 ≤ (1 : Int) := (by omega)
      have q170 : 1 < (l1.length : Int) := of_decide_eq_true (by first | (with_reducible assumption) | assumption)
      obtain ⟨ad170, e170, hx170_0⟩ := Kd.at_int HR1.out 1 p170 q170
      have hw170_0 := hx170_0
      (try rw [show ((1 : Int)).toNat = 1 from rfl] at hw170_0)
      (try rw [show 1 * 1 = 1 from rfl] at hw170_0)
      (try simp only [Nat.reduceMul, Nat.reduceEqDiff, Go.Addr.add, ↓reduceIte] at hw170_0)
      obtain rfl : ad167 = ad170 := (by injection e170)
      (try simp only [show (1 : Int).toNat = 1 from rfl, Nat.reduceMul, Nat.reduceEqDiff, Go.Addr.add, ↓reduceIte] at hx170_0)
      have qi170 : (1 < l1.length) = True := eq_true (by omega)
      (try rw [show ((1 : Int)).toNat = 1 from rfl] at hx170_0)
      try replace hx170_0 := (HB.out.cell (World.block_lt_of_cell? w _ hx170_0)).trans hx170_0
      replace p170 := eq_true p170
      replace q170 := eq_true q170
      have p171 : 0 ≤ (1 : Int) := (by omega)
      have q171 : 1 < (l2.length : Int) := of_decide_eq_true (by first | (with_reducible assumption) | assumption)
      obtain ⟨ad171, e171, hx171_0⟩ := Kd.at_int HR2.out 1 p171 q171
      have hw171_0 := hx171_0
      (try rw [show ((1 : Int)).toNat = 1 from rfl] at hw171_0)
      (try rw [show 1 * 1 = 1 from rfl] at hw171_0)
      (try simp only [Nat.reduceMul, Nat.reduceEqDiff, Go.Addr.add, ↓reduceIte] at hw171_0)
      obtain rfl : ad168 = ad171 := (by injection e171)
      (try simp only [show (1 : Int).toNat = 1 from rfl, Nat.reduceMul, Nat.reduceEqDiff, Go.Addr.add, ↓reduceIte] at hx171_0)
      have qi171 : (1 < l2.length) = True := eq_true (by omega)
      (try rw [show ((1 : Int)).toNat = 1 from rfl] at hx171_0)
      try replace hx171_0 := (HB.out.cell (World.block_lt_of_cell? w _ hx171_0)).trans hx171_0
      replace p171 := eq_true p171
      replace q171 := eq_true q171
      refine start_ (n := 18) (S := fun w' => w'.cell? ad167 = some (.int .i64 (rd l1 0)) ∧ w'.cell? ad168 = some (.int .i64 (rd l2 0)) ∧ w'.cell? ⟨ad167.block, ad167.off + 1, none⟩ = some (.int .i64 (rd l1 1)) ∧ w'.cell? ⟨ad168.block, ad168.off + 1, none⟩ = some (.int .i64 (rd l2 1))) (ds := []) (Pt.bm 18 0) (by kernel_rfl) rfl rfl ⟨((HB.out.cell (World.block_lt_of_cell? w _ hw167_0)).trans hw167_0), ((HB.out.cell (World.block_lt_of_cell? w _ hw168_0)).trans hw168_0), ((HB.out.cell (World.block_lt_of_cell? w _ hw170_0)).trans hw170_0), ((HB.out.cell (World.block_lt_of_cell? w _ hw171_0)).trans hw171_0)⟩ (fun hHeld => ?_); refine with_tabW spec_l1Between.tab2 spec_l1Between.bits2 (fun HT_ HW_ => ?_)
      generalize w.drew = w11 at HB hx167_0 hx168_0 hx170_0 hx171_0 hHeld ⊢
      refine Pt.pu 0 (some 10) (Pt.bm 18 1) (any_of HT_.out (by kernel_rfl)) ?_
      refine Pt.pu 1 (some 11) (Pt.bm 18 3) (any_of HT_.out (by kernel_rfl)) ?_
      refine Pt.pu 3 (some 13) (Pt.bm 18 11) (any_of HT_.out (by kernel_rfl)) ?_
      refine Pt.pu 4 (some 14) (Pt.bm 18 27) (any_of HT_.out (by kernel_rfl)) ?_
      refine Pt.pu 8 (some 18) (Pt.bm 18 283) (any_of HT_.out (by kernel_rfl)) ?_
      refine Pt.pu 9 (some 19) (Pt.bm 18 795) (any_of HT_.out (by kernel_rfl)) ?_
      refine Pt.pu 11 (some 21) (Pt.bm 18 2843) (any_of HT_.out (by kernel_rfl)) ?_
      refine Pt.pu 12 (some 22) (Pt.bm 18 6939) (any_of HT_.out (by kernel_rfl)) ?_
      refine Pt.tk 2 (some 12) (Pt.bm 18 6943) rfl rfl (take_ofW HT_.out HW_.out (by kernel_rfl)) hHeld (Or.inl ⟨by rfl, by rintro w' ⟨s0, s1, s2, s3⟩; go_simp; with_reducible rfl⟩) ?_
      refine Pt.tk 5 (some 15) (Pt.bm 18 6975) rfl rfl (take_ofW HT_.out HW_.out (by kernel_rfl)) hHeld (Or.inl ⟨by rfl, by rintro w' ⟨s0, s1, s2, s3⟩; go_simp; with_reducible rfl⟩) ?_
      refine Pt.pu 6 (some 16) (Pt.bm 18 7039) (any_of HT_.out (by kernel_rfl)) ?_
      refine Pt.tk 10 (some 20) (Pt.bm 18 8063) rfl rfl (take_ofW HT_.out HW_.out (by kernel_rfl)) hHeld (Or.inl ⟨by rfl, by rintro w' ⟨s0, s1, s2, s3⟩; go_simp; with_reducible rfl⟩) ?_
      refine Pt.tk 13 (some 23) (Pt.bm 18 16255) rfl rfl (take_ofW HT_.out HW_.out (by kernel_rfl)) hHeld (Or.inl ⟨by rfl, by rintro w' ⟨s0, s1, s2, s3⟩; go_simp; with_reducible rfl⟩) ?_
      refine Pt.pu 14 (some 24) (Pt.bm 18 32639) (any_of HT_.out (by kernel_rfl)) ?_
      refine one_ (i := 7) (N := some 17) (Pt.bm 18 32767) rfl rfl (one_of HT_.out (by kernel_rfl)) (by decide) (fun K hK => ?_)
      refine goes_ Try.func111 (by kernel_rfl) rfl #[.int .i64 (wrap64 ((rd l1 0) + (rd l2 0)))] (by rfl) rfl rfl (by (try simp only [List.map_toArray, List.map_cons, List.map_nil]); first | done | rfl | (simp only [List.length_drop, List.length_take]; rfl)) ?_
      with_reducible refine (spec_l1Held.calls (wrap64 ((rd l1 0) + (rd l2 0))) t169 _ A7.out).mono ?_
      rintro e w' ⟨rfl, ⟨nd, rfl⟩⟩
      refine ⟨_, rfl, ?_⟩
      refine hK.out _ _ ⟨((HB.out.cell (World.block_lt_of_cell? w _ hw167_0)).trans hw167_0), ((HB.out.cell (World.block_lt_of_cell? w _ hw168_0)).trans hw168_0), ((HB.out.cell (World.block_lt_of_cell? w _ hw170_0)).trans hw170_0), ((HB.out.cell (World.block_lt_of_cell? w _ hw171_0)).trans hw171_0)⟩ (fun hHeld => ?_)
      clear hK K
      refine norm_ (a' := ?_) ?_ ?_
      rotate_left
      ·show Act.put _ (some 17) _ = _
       simp only [Act.put, List.setIfInBounds_toArray, List.set_cons_zero, List.set_cons_succ, i64_w, i32_w]
       rfl
      refine one_ (i := 15) (N := some 25) (Pt.bm 18 65535) rfl rfl (one_of HT_.out (by kernel_rfl)) (by decide) (fun K hK => ?_)
      refine goes_ Try.func111 (by kernel_rfl) rfl #[.int .i64 (wrap64 ((rd l1 1) + (rd l2 1)))] (by rfl) rfl rfl (by (try simp only [List.map_toArray, List.map_cons, List.map_nil]); first | done | rfl | (simp only [List.length_drop, List.length_take]; rfl)) ?_
      with_reducible refine (spec_l1Held.calls (wrap64 ((rd l1 1) + (rd l2 1))) t172 _ A10.out).mono ?_
      rintro e w' ⟨rfl, ⟨nd, rfl⟩⟩
      refine ⟨_, rfl, ?_⟩
      refine hK.out _ _ ⟨((HB.out.cell (World.block_lt_of_cell? w _ hw167_0)).trans hw167_0), ((HB.out.cell (World.block_lt_of_cell? w _ hw168_0)).trans hw168_0), ((HB.out.cell (World.block_lt_of_cell? w _ hw170_0)).trans hw170_0), ((HB.out.cell (World.block_lt_of_cell? w _ hw171_0)).trans hw171_0)⟩ (fun hHeld => ?_)
      clear hK K
      refine norm_ (a' := ?_) ?_ ?_
      rotate_left
      ·show Act.put _ (some 25) _ = _
       simp only [Act.put, List.setIfInBounds_toArray, List.set_cons_zero, List.set_cons_succ, i64_w, i32_w]
       rfl
      refine one_ (i := 16) (N := some 26) (Pt.bm 18 131071) rfl rfl (one_of HT_.out (by kernel_rfl)) (by decide) (fun K hK => ?_)
      refine Kd.R_lit_step (Kd.int .i64) _ 3 ?hg (N := 26) ?hd (xs := ([t169, t172] : List Int)) (inner := [.int .i64 t169, .int .i64 t172]) (ok := fun _ => True) (okp := fun _ => True) ?hr ?hp (fun _ hk => hk) trivial (Below.refl _ _) (Nat.le_refl _) (by simp) ?_; (case hd => rfl); (case hg => rfl); (case hr => first | (go_simp; done) | (go_simp; rfl)); (case hp => exact (Reps.one (show Kd.M (Kd.int .i64) _ _ _ t169 [.int .i64 t169] from rfl) (Reps.one (show Kd.M (Kd.int .i64) _ _ _ t172 [.int .i64 t172] from rfl) (Reps.none _ _))))
      intro v174 w12 ho13 hb hg_ hnew_
      clear hg_ hnew_
      (first | rw [← Ny173.out] at ho13 | (simp only [Int.reduceToNat] at ho13; rw [← Ny173.out] at ho13))
      have n0_ := Aside0.mk (Kd.R_lower ho13 (below_size (by repeat (first | (with_reducible first | exact HB.out | apply bwA | apply bwN | apply bwD) | exact HB.out))))
      have n1_ := Aside0.mk (below_step (by repeat (first | (with_reducible first | exact HB.out | apply bwA | apply bwN | apply bwD) | exact HB.out)) hb)
      clear HB
      have HO175 := n0_
      have HB := n1_
      clear n0_ n1_
      clear hb ho13
      refine hK.out _ _ ⟨((HB.out.cell (World.block_lt_of_cell? w _ hw167_0)).trans hw167_0), ((HB.out.cell (World.block_lt_of_cell? w _ hw168_0)).trans hw168_0), ((HB.out.cell (World.block_lt_of_cell? w _ hw170_0)).trans hw170_0), ((HB.out.cell (World.block_lt_of_cell? w _ hw171_0)).trans hw171_0)⟩ (fun hHeld => ?_)
      clear hK K
      refine norm_ (a' := ?_) ?_ ?_
      rotate_left
      ·show Act.put _ (some 26) _ = _
       simp only [Act.put, List.setIfInBounds_toArray, List.set_cons_zero, List.set_cons_succ, i64_w, i32_w]
       rfl
      refine Pt.pu 17 (some 6) (Pt.bm 18 262143) (any_of HT_.out (by kernel_rfl)) ?_
      refine done_ (done_of HT_.out (by kernel_rfl)) ?_
      try go_wp2
      go_ret
      exact ⟨_, by first | rfl | (simp [errW_none, errW_some] <;> rfl) | (simp [*, errW_none, errW_some] <;> rfl), by (with_reducible repeat (first | apply Kd.R_alloc | apply Kd.R_drewN | apply Kd.R_drew)); exact HO175.out, by repeat (first | (with_reducible first | exact HB.out | apply bwA | apply bwN | apply bwD) | exact HB.out)⟩
     ·rw [if_neg c9] at H
      exact absurd H (by simp)
    ·rw [if_neg c8] at H
     exact absurd H (by simp)
   ·rw [if_neg c6] at H
    exact absurd H (by simp)
  ·rw [if_neg c5] at H
   exact absurd H (by simp)
 ·rw [if_neg c4] at H
  have c4b0 : (a0 == 2) = false := beq_eq_false_iff_ne.mpr c4
  have c4b1 : (a0 != 2) = true := bne_iff_ne.mpr c4
  by_cases c14 : a0 = 3
  ·rw [if_pos c14] at H
   have c14b0 : (a0 == 3) = true := beq_iff_eq.mpr c14
   have c14b1 : (a0 != 3) = false := bne_eq_false_iff_eq.mpr c14
   clear c14
   by_cases c15 : 0 < (l1.length : Int)
   ·rw [if_pos c15] at H
    have c15b0 : decide (0 < (l1.length : Int)) = true := decide_eq_true c15
    have c15b1 : decide (0 < l1.length) = true := decide_eq_true (by omega)
    clear c15
    by_cases c16 : 1 < (l2.length : Int)
    ·rw [if_pos c16] at H
     have c16b0 : decide (1 < (l2.length : Int)) = true := decide_eq_true c16
     have c16b1 : decide (1 < l2.length) = true := decide_eq_true (by omega)
     clear c16
     replace H := Option.bind_eq_some_iff.mp H
     obtain ⟨t178, A170, H⟩ := H
     replace H : (if 1 < (l1.length : Int) then (if 0 < (l2.length : Int) then ((spec_l1Held.f (wrap64 ((rd l1 1) - (rd l2 0)))).bind fun t181 => (some (([t178, t181] : List Int)))) else (none)) else (none)) = some r := H
     have A17 := Aside0.mk A170
     clear A170
     by_cases c18 : 1 < (l1.length : Int)
     ·rw [if_pos c18] at H
      have c18b0 : decide (1 < (l1.length : Int)) = true := decide_eq_true c18
      have c18b1 : decide (1 < l1.length) = true := decide_eq_true (by omega)
      clear c18
      by_cases c19 : 0 < (l2.length : Int)
      ·rw [if_pos c19] at H
       have c19b0 : decide (0 < (l2.length : Int)) = true := decide_eq_true c19
       have c19b1 : decide (0 < l2.length) = true := decide_eq_true (by omega)
       clear c19
       replace H := Option.bind_eq_some_iff.mp H
       obtain ⟨t181, A200, H⟩ := H
       replace H : (some (([t178, t181] : List Int))) = some r := H
       have A20 := Aside0.mk A200
       clear A200
       obtain ⟨y182, hy182⟩ : ∃ y_ : List Int, y_ = (([t178, t181] : List Int)) := ⟨_, rfl⟩
       replace H : (some y182) = some r := by first | (rw [hy182]; with_reducible exact H) | (have H2_ := (Option.bind_some _ _).symm.trans H; rw [hy182]; with_reducible exact H2_) | (have H2_ := (Option.bind_some _ _).symm.trans H; with_reducible exact H2_) | with_reducible exact H | (rw [hy182]; exact H) | exact H
       have Ny182 := Aside0.mk hy182
       clear hy182
       obtain rfl := Option.some.inj H
       go_enter Try.func74, Try.ntmps74
       try go_wp2
       have n0_ := Aside0.mk (below_drew1 HB.out)
       clear HB
       have HB := n0_
       clear n0_
       have p176 : 0 ≤ (0 : Int) := (by omega)
       have q176 : 0 < (l1.length : Int) := of_decide_eq_true (by first | (with_reducible assumption) | assumption)
       obtain ⟨ad176, e176, hx176_0⟩ := Kd.at_int HR1.out 0 p176 q176
       have hw176_0 := hx176_0
       (try rw [show ((0 : Int)).toNat = 0 from rfl] at hw176_0)
       (try rw [show 0 * 1 = 0 from rfl] at hw176_0)
       (try rw [Addr.add_zero'] at hw176_0)
       cases e176
       have qi176 : (0 < l1.length) = True := eq_true (by omega)
       (try rw [show ((0 : Int)).toNat = 0 from rfl] at hx176_0)
       (try rw [Addr.add_zero'] at hx176_0)
       try replace hx176_0 := (HB.out.cell (World.block_lt_of_cell? w _ hx176_0)).trans hx176_0
       replace p176 := eq_true p176
       replace q176 := eq_true q176
       have p177 : 0 ≤ (1 : Int) := (by omega)
       have q177 : 1 < (l2.length : Int) := of_decide_eq_true (by first | (with_reducible assumption) | assumption)
       obtain ⟨ad177, e177, hx177_0⟩ := Kd.at_int HR2.out 1 p177 q177
       have hw177_0 := hx177_0
       (try rw [show ((1 : Int)).toNat = 1 from rfl] at hw177_0)
       (try rw [show 1 * 1 = 1 from rfl] at hw177_0)
       (try simp only [Nat.reduceMul, Nat.reduceEqDiff, Go.Addr.add, ↓reduceIte] at hw177_0)
       cases e177
       (try simp only [show (1 : Int).toNat = 1 from rfl, Nat.reduceMul, Nat.reduceEqDiff, Go.Addr.add, ↓reduceIte] at hx177_0)
       have qi177 : (1 < l2.length) = True := eq_true (by omega)
       (try rw [show ((1 : Int)).toNat = 1 from rfl] at hx177_0)
       try replace hx177_0 := (HB.out.cell (World.block_lt_of_cell? w _ hx177_0)).trans hx177_0
       replace p177 := eq_true p177
       replace q177 := eq_true q177
       have p179 : 0 ≤ (1 : Int) := (by omega)
       have q179 : 1 < (l1.length : Int) := of_decide_eq_true (by first | (with_reducible assumption) | assumption)
       obtain ⟨ad179, e179, hx179_0⟩ := Kd.at_int HR1.out 1 p179 q179
       have hw179_0 := hx179_0
       (try rw [show ((1 : Int)).toNat = 1 from rfl] at hw179_0)
       (try rw [show 1 * 1 = 1 from rfl] at hw179_0)
       (try simp only [Nat.reduceMul, Nat.reduceEqDiff, Go.Addr.add, ↓reduceIte] at hw179_0)
       obtain rfl : ad176 = ad179 := (by injection e179)
       (try simp only [show (1 : Int).toNat = 1 from rfl, Nat.reduceMul, Nat.reduceEqDiff, Go.Addr.add, ↓reduceIte] at hx179_0)
       have qi179 : (1 < l1.length) = True := eq_true (by omega)
       (try rw [show ((1 : Int)).toNat = 1 from rfl] at hx179_0)
       try replace hx179_0 := (HB.out.cell (World.block_lt_of_cell? w _ hx179_0)).trans hx179_0
       replace p179 := eq_true p179
       replace q179 := eq_true q179
       have p180 : 0 ≤ (0 : Int) := (by omega)
       have q180 : 0 < (l2.length : Int) := of_decide_eq_true (by first | (with_reducible assumption) | assumption)
       obtain ⟨ad180, e180, hx180_0⟩ := Kd.at_int HR2.out 0 p180 q180
       have hw180_0 := hx180_0
       (try rw [show ((0 : Int)).toNat = 0 from rfl] at hw180_0)
       (try rw [show 0 * 1 = 0 from rfl] at hw180_0)
       (try rw [Addr.add_zero'] at hw180_0)
       obtain rfl : ad177 = ad180 := (by injection e180)
       have qi180 : (0 < l2.length) = True := eq_true (by omega)
       (try rw [show ((0 : Int)).toNat = 0 from rfl] at hx180_0)
       (try rw [Addr.add_zero'] at hx180_0)
       try replace hx180_0 := (HB.out.cell (World.block_lt_of_cell? w _ hx180_0)).trans hx180_0
       replace p180 := eq_true p180
       replace q180 := eq_true q180
       refine start_ (n := 18) (S := fun w' => w'.cell? ad176 = some (.int .i64 (rd l1 0)) ∧ w'.cell? ⟨ad177.block, ad177.off + 1, none⟩ = some (.int .i64 (rd l2 1)) ∧ w'.cell? ⟨ad176.block, ad176.off + 1, none⟩ = some (.int .i64 (rd l1 1)) ∧ w'.cell? ad177 = some (.int .i64 (rd l2 0))) (ds := []) (Pt.bm 18 0) (by kernel_rfl) rfl rfl ⟨((HB.out.cell (World.block_lt_of_cell? w _ hw176_0)).trans hw176_0), ((HB.out.cell (World.block_lt_of_cell? w _ hw177_0)).trans hw177_0), ((HB.out.cell (World.block_lt_of_cell? w _ hw179_0)).trans hw179_0), ((HB.out.cell (World.block_lt_of_cell? w _ hw180_0)).trans hw180_0)⟩ (fun hHeld => ?_); refine with_tabW spec_l1Between.tab4 spec_l1Between.bits4 (fun HT_ HW_ => ?_)
       generalize w.drew = w21 at HB hx176_0 hx177_0 hx179_0 hx180_0 hHeld ⊢
       refine Pt.pu 0 (some 29) (Pt.bm 18 1) (any_of HT_.out (by kernel_rfl)) ?_
       refine Pt.pu 1 (some 30) (Pt.bm 18 3) (any_of HT_.out (by kernel_rfl)) ?_
       refine Pt.pu 3 (some 32) (Pt.bm 18 11) (any_of HT_.out (by kernel_rfl)) ?_
       refine Pt.pu 4 (some 33) (Pt.bm 18 27) (any_of HT_.out (by kernel_rfl)) ?_
       refine Pt.pu 8 (some 37) (Pt.bm 18 283) (any_of HT_.out (by kernel_rfl)) ?_
       refine Pt.pu 9 (some 38) (Pt.bm 18 795) (any_of HT_.out (by kernel_rfl)) ?_
       refine Pt.pu 11 (some 40) (Pt.bm 18 2843) (any_of HT_.out (by kernel_rfl)) ?_
       refine Pt.pu 12 (some 41) (Pt.bm 18 6939) (any_of HT_.out (by kernel_rfl)) ?_
       refine Pt.tk 2 (some 31) (Pt.bm 18 6943) rfl rfl (take_ofW HT_.out HW_.out (by kernel_rfl)) hHeld (Or.inl ⟨by rfl, by rintro w' ⟨s0, s1, s2, s3⟩; go_simp; with_reducible rfl⟩) ?_
       refine Pt.tk 5 (some 34) (Pt.bm 18 6975) rfl rfl (take_ofW HT_.out HW_.out (by kernel_rfl)) hHeld (Or.inl ⟨by rfl, by rintro w' ⟨s0, s1, s2, s3⟩; go_simp; with_reducible rfl⟩) ?_
       refine Pt.pu 6 (some 35) (Pt.bm 18 7039) (any_of HT_.out (by kernel_rfl)) ?_
       refine Pt.tk 10 (some 39) (Pt.bm 18 8063) rfl rfl (take_ofW HT_.out HW_.out (by kernel_rfl)) hHeld (Or.inl ⟨by rfl, by rintro w' ⟨s0, s1, s2, s3⟩; go_simp; with_reducible rfl⟩) ?_
       refine Pt.tk 13 (some 42) (Pt.bm 18 16255) rfl rfl (take_ofW HT_.out HW_.out (by kernel_rfl)) hHeld (Or.inl ⟨by rfl, by rintro w' ⟨s0, s1, s2, s3⟩; go_simp; with_reducible rfl⟩) ?_
       refine Pt.pu 14 (some 43) (Pt.bm 18 32639) (any_of HT_.out (by kernel_rfl)) ?_
       refine one_ (i := 7) (N := some 36) (Pt.bm 18 32767) rfl rfl (one_of HT_.out (by kernel_rfl)) (by decide) (fun K hK => ?_)
       refine goes_ Try.func111 (by kernel_rfl) rfl #[.int .i64 (wrap64 ((rd l1 0) - (rd l2 1)))] (by rfl) rfl rfl (by (try simp only [List.map_toArray, List.map_cons, List.map_nil]); first | done | rfl | (simp only [List.length_drop, List.length_take]; rfl)) ?_
       with_reducible refine (spec_l1Held.calls (wrap64 ((rd l1 0) - (rd l2 1))) t178 _ A17.out).mono ?_
       rintro e w' ⟨rfl, ⟨nd, rfl⟩⟩
       refine ⟨_, rfl, ?_⟩
       refine hK.out _ _ ⟨((HB.out.cell (World.block_lt_of_cell? w _ hw176_0)).trans hw176_0), ((HB.out.cell (World.block_lt_of_cell? w _ hw177_0)).trans hw177_0), ((HB.out.cell (World.block_lt_of_cell? w _ hw179_0)).trans hw179_0), ((HB.out.cell (World.block_lt_of_cell? w _ hw180_0)).trans hw180_0)⟩ (fun hHeld => ?_)
       clear hK K
       refine norm_ (a' := ?_) ?_ ?_
       rotate_left
       ·show Act.put _ (some 36) _ = _
        simp only [Act.put, List.setIfInBounds_toArray, List.set_cons_zero, List.set_cons_succ, i64_w, i32_w]
        rfl
       refine one_ (i := 15) (N := some 44) (Pt.bm 18 65535) rfl rfl (one_of HT_.out (by kernel_rfl)) (by decide) (fun K hK => ?_)
       refine goes_ Try.func111 (by kernel_rfl) rfl #[.int .i64 (wrap64 ((rd l1 1) - (rd l2 0)))] (by rfl) rfl rfl (by (try simp only [List.map_toArray, List.map_cons, List.map_nil]); first | done | rfl | (simp only [List.length_drop, List.length_take]; rfl)) ?_
       with_reducible refine (spec_l1Held.calls (wrap64 ((rd l1 1) - (rd l2 0))) t181 _ A20.out).mono ?_
       rintro e w' ⟨rfl, ⟨nd, rfl⟩⟩
       refine ⟨_, rfl, ?_⟩
       refine hK.out _ _ ⟨((HB.out.cell (World.block_lt_of_cell? w _ hw176_0)).trans hw176_0), ((HB.out.cell (World.block_lt_of_cell? w _ hw177_0)).trans hw177_0), ((HB.out.cell (World.block_lt_of_cell? w _ hw179_0)).trans hw179_0), ((HB.out.cell (World.block_lt_of_cell? w _ hw180_0)).trans hw180_0)⟩ (fun hHeld => ?_)
       clear hK K
       refine norm_ (a' := ?_) ?_ ?_
       rotate_left
       ·show Act.put _ (some 44) _ = _
        simp only [Act.put, List.setIfInBounds_toArray, List.set_cons_zero, List.set_cons_succ, i64_w, i32_w]
        rfl
       refine one_ (i := 16) (N := some 45) (Pt.bm 18 131071) rfl rfl (one_of HT_.out (by kernel_rfl)) (by decide) (fun K hK => ?_)
       refine Kd.R_lit_step (Kd.int .i64) _ 3 ?hg (N := 45) ?hd (xs := ([t178, t181] : List Int)) (inner := [.int .i64 t178, .int .i64 t181]) (ok := fun _ => True) (okp := fun _ => True) ?hr ?hp (fun _ hk => hk) trivial (Below.refl _ _) (Nat.le_refl _) (by simp) ?_; (case hd => rfl); (case hg => rfl); (case hr => first | (go_simp; done) | (go_simp; rfl)); (case hp => exact (Reps.one (show Kd.M (Kd.int .i64) _ _ _ t178 [.int .i64 t178] from rfl) (Reps.one (show Kd.M (Kd.int .i64) _ _ _ t181 [.int .i64 t181] from rfl) (Reps.none _ _))))
       intro v183 w22 ho23 hb hg_ hnew_
       clear hg_ hnew_
       (first | rw [← Ny182.out] at ho23 | (simp only [Int.reduceToNat] at ho23; rw [← Ny182.out] at ho23))
       have n0_ := Aside0.mk (Kd.R_lower ho23 (below_size (by repeat (first | (with_reducible first | exact HB.out | apply bwA | apply bwN | apply bwD) | exact HB.out))))
       have n1_ := Aside0.mk (below_step (by repeat (first | (with_reducible first | exact HB.out | apply bwA | apply bwN | apply bwD) | exact HB.out)) hb)
       clear HB
       have HO184 := n0_
       have HB := n1_
       clear n0_ n1_
       clear hb ho23
       refine hK.out _ _ ⟨((HB.out.cell (World.block_lt_of_cell? w _ hw176_0)).trans hw176_0), ((HB.out.cell (World.block_lt_of_cell? w _ hw177_0)).trans hw177_0), ((HB.out.cell (World.block_lt_of_cell? w _ hw179_0)).trans hw179_0), ((HB.out.cell (World.block_lt_of_cell? w _ hw180_0)).trans hw180_0)⟩ (fun hHeld => ?_)
       clear hK K
       refine norm_ (a' := ?_) ?_ ?_
       rotate_left
       ·show Act.put _ (some 45) _ = _
        simp only [Act.put, List.setIfInBounds_toArray, List.set_cons_zero, List.set_cons_succ, i64_w, i32_w]
        rfl
       refine Pt.pu 17 (some 6) (Pt.bm 18 262143) (any_of HT_.out (by kernel_rfl)) ?_
       refine done_ (done_of HT_.out (by kernel_rfl)) ?_
       try go_wp2
       go_ret
       exact ⟨_, by first | rfl | (simp [errW_none, errW_some] <;> rfl) | (simp [*, errW_none, errW_some] <;> rfl), by (with_reducible repeat (first | apply Kd.R_alloc | apply Kd.R_drewN | apply Kd.R_drew)); exact HO184.out, by repeat (first | (with_reducible first | exact HB.out | apply bwA | apply bwN | apply bwD) | exact HB.out)⟩
      ·rw [if_neg c19] at H
       exact absurd H (by simp)
     ·rw [if_neg c18] at H
      exact absurd H (by simp)
    ·rw [if_neg c16] at H
     exact absurd H (by simp)
   ·rw [if_neg c15] at H
    exact absurd H (by simp)
  ·rw [if_neg c14] at H
   have c14b0 : (a0 == 3) = false := beq_eq_false_iff_ne.mpr c14
   have c14b1 : (a0 != 3) = true := bne_iff_ne.mpr c14
   by_cases c24 : a0 = 4
   ·rw [if_pos c24] at H
    have c24b0 : (a0 == 4) = true := beq_iff_eq.mpr c24
    have c24b1 : (a0 != 4) = false := bne_eq_false_iff_eq.mpr c24
    clear c24
    by_cases c25 : 0 < (l1.length : Int)
    ·rw [if_pos c25] at H
     have c25b0 : decide (0 < (l1.length : Int)) = true := decide_eq_true c25
     have c25b1 : decide (0 < l1.length) = true := decide_eq_true (by omega)
     clear c25
     by_cases c26 : 0 < (l2.length : Int)
     ·rw [if_pos c26] at H
      have c26b0 : decide (0 < (l2.length : Int)) = true := decide_eq_true c26
      have c26b1 : decide (0 < l2.length) = true := decide_eq_true (by omega)
      clear c26
      by_cases c27 : 1 < (l2.length : Int)
      ·rw [if_pos c27] at H
       have c27b0 : decide (1 < (l2.length : Int)) = true := decide_eq_true c27
       have c27b1 : decide (1 < l2.length) = true := decide_eq_true (by omega)
       clear c27
       by_cases c28 : 1 < (l1.length : Int)
       ·rw [if_pos c28] at H
        have c28b0 : decide (1 < (l1.length : Int)) = true := decide_eq_true c28
        have c28b1 : decide (1 < l1.length) = true := decide_eq_true (by omega)
        clear c28
        replace H := Option.bind_eq_some_iff.mp H
        obtain ⟨t193, A290, H⟩ := H
        replace H : (if 0 < (t193.length : Int) then ((spec_l1Held.f (rd t193 0)).bind fun t197 => (if 1 < (t193.length : Int) then ((spec_l1Held.f (rd t193 1)).bind fun t199 => (some (([t197, t199] : List Int)))) else (none))) else (none)) = some r := H
        have A29 := Aside0.mk A290
        clear A290
        by_cases c30 : 0 < (t193.length : Int)
        ·rw [if_pos c30] at H
         have c30b0 : decide (0 < (t193.length : Int)) = true := decide_eq_true c30
         have c30b1 : decide (0 < t193.length) = true := decide_eq_true (by omega)
         clear c30
         replace H := Option.bind_eq_some_iff.mp H
         obtain ⟨t197, A310, H⟩ := H
         replace H : (if 1 < (t193.length : Int) then ((spec_l1Held.f (rd t193 1)).bind fun t199 => (some (([t197, t199] : List Int)))) else (none)) = some r := H
         have A31 := Aside0.mk A310
         clear A310
         by_cases c32 : 1 < (t193.length : Int)
         ·rw [if_pos c32] at H
          have c32b0 : decide (1 < (t193.length : Int)) = true := decide_eq_true c32
          have c32b1 : decide (1 < t193.length) = true := decide_eq_true (by omega)
          clear c32
          replace H := Option.bind_eq_some_iff.mp H
          obtain ⟨t199, A330, H⟩ := H
          replace H : (some (([t197, t199] : List Int))) = some r := H
          have A33 := Aside0.mk A330
          clear A330
          obtain ⟨y200, hy200⟩ : ∃ y_ : List Int, y_ = (([t197, t199] : List Int)) := ⟨_, rfl⟩
          replace H : (some y200) = some r := by first | (rw [hy200]; with_reducible exact H) | (have H2_ := (Option.bind_some _ _).symm.trans H; rw [hy200]; with_reducible exact H2_) | (have H2_ := (Option.bind_some _ _).symm.trans H; with_reducible exact H2_) | with_reducible exact H | (rw [hy200]; exact H) | exact H
          have Ny200 := Aside0.mk hy200
          clear hy200
          obtain rfl := Option.some.inj H
          go_enter Try.func74, Try.ntmps74
          try go_wp2
          have n0_ := Aside0.mk (below_drew1 HB.out)
          clear HB
          have HB := n0_
          clear n0_
          have p185 : 0 ≤ (0 : Int) := (by omega)
          have q185 : 0 < (l1.length : Int) := of_decide_eq_true (by first | (with_reducible assumption) | assumption)
          obtain ⟨ad185, e185, hx185_0⟩ := Kd.at_int HR1.out 0 p185 q185
          have hw185_0 := hx185_0
          (try rw [show ((0 : Int)).toNat = 0 from rfl] at hw185_0)
          (try rw [show 0 * 1 = 0 from rfl] at hw185_0)
          (try rw [Addr.add_zero'] at hw185_0)
          cases e185
          have qi185 : (0 < l1.length) = True := eq_true (by omega)
          (try rw [show ((0 : Int)).toNat = 0 from rfl] at hx185_0)
          (try rw [Addr.add_zero'] at hx185_0)
          try replace hx185_0 := (HB.out.cell (World.block_lt_of_cell? w _ hx185_0)).trans hx185_0
          replace p185 := eq_true p185
          replace q185 := eq_true q185
          have p186 : 0 ≤ (0 : Int) := (by omega)
          have q186 : 0 < (l2.length : Int) := of_decide_eq_true (by first | (with_reducible assumption) | assumption)
          obtain ⟨ad186, e186, hx186_0⟩ := Kd.at_int HR2.out 0 p186 q186
          have hw186_0 := hx186_0
          (try rw [show ((0 : Int)).toNat = 0 from rfl] at hw186_0)
          (try rw [show 0 * 1 = 0 from rfl] at hw186_0)
          (try rw [Addr.add_zero'] at hw186_0)
          cases e186
          have qi186 : (0 < l2.length) = True := eq_true (by omega)
          (try rw [show ((0 : Int)).toNat = 0 from rfl] at hx186_0)
          (try rw [Addr.add_zero'] at hx186_0)
          try replace hx186_0 := (HB.out.cell (World.block_lt_of_cell? w _ hx186_0)).trans hx186_0
          replace p186 := eq_true p186
          replace q186 := eq_true q186
          have p187 : 0 ≤ (0 : Int) := (by omega)
          have q187 : 0 < (l1.length : Int) := of_decide_eq_true (by first | (with_reducible assumption) | assumption)
          obtain ⟨ad187, e187, hx187_0⟩ := Kd.at_int HR1.out 0 p187 q187
          have hw187_0 := hx187_0
          (try rw [show ((0 : Int)).toNat = 0 from rfl] at hw187_0)
          (try rw [show 0 * 1 = 0 from rfl] at hw187_0)
          (try rw [Addr.add_zero'] at hw187_0)
          obtain rfl : ad185 = ad187 := (by injection e187)
          have qi187 : (0 < l1.length) = True := eq_true (by omega)
          (try rw [show ((0 : Int)).toNat = 0 from rfl] at hx187_0)
          (try rw [Addr.add_zero'] at hx187_0)
          try replace hx187_0 := (HB.out.cell (World.block_lt_of_cell? w _ hx187_0)).trans hx187_0
          replace p187 := eq_true p187
          replace q187 := eq_true q187
          have p188 : 0 ≤ (1 : Int) := (by omega)
          have q188 : 1 < (l2.length : Int) := of_decide_eq_true (by first | (with_reducible assumption) | assumption)
          obtain ⟨ad188, e188, hx188_0⟩ := Kd.at_int HR2.out 1 p188 q188
          have hw188_0 := hx188_0
          (try rw [show ((1 : Int)).toNat = 1 from rfl] at hw188_0)
          (try rw [show 1 * 1 = 1 from rfl] at hw188_0)
          (try simp only [Nat.reduceMul, Nat.reduceEqDiff, Go.Addr.add, ↓reduceIte] at hw188_0)
          obtain rfl : ad186 = ad188 := (by injection e188)
          (try simp only [show (1 : Int).toNat = 1 from rfl, Nat.reduceMul, Nat.reduceEqDiff, Go.Addr.add, ↓reduceIte] at hx188_0)
          have qi188 : (1 < l2.length) = True := eq_true (by omega)
          (try rw [show ((1 : Int)).toNat = 1 from rfl] at hx188_0)
          try replace hx188_0 := (HB.out.cell (World.block_lt_of_cell? w _ hx188_0)).trans hx188_0
          replace p188 := eq_true p188
          replace q188 := eq_true q188
          have p189 : 0 ≤ (1 : Int) := (by omega)
          have q189 : 1 < (l1.length : Int) := of_decide_eq_true (by first | (with_reducible assumption) | assumption)
          obtain ⟨ad189, e189, hx189_0⟩ := Kd.at_int HR1.out 1 p189 q189
          have hw189_0 := hx189_0
          (try rw [show ((1 : Int)).toNat = 1 from rfl] at hw189_0)
          (try rw [show 1 * 1 = 1 from rfl] at hw189_0)
          (try simp only [Nat.reduceMul, Nat.reduceEqDiff, Go.Addr.add, ↓reduceIte] at hw189_0)
          obtain rfl : ad185 = ad189 := (by injection e189)
          (try simp only [show (1 : Int).toNat = 1 from rfl, Nat.reduceMul, Nat.reduceEqDiff, Go.Addr.add, ↓reduceIte] at hx189_0)
          have qi189 : (1 < l1.length) = True := eq_true (by omega)
          (try rw [show ((1 : Int)).toNat = 1 from rfl] at hx189_0)
          try replace hx189_0 := (HB.out.cell (World.block_lt_of_cell? w _ hx189_0)).trans hx189_0
          replace p189 := eq_true p189
          replace q189 := eq_true q189
          have p190 : 0 ≤ (0 : Int) := (by omega)
          have q190 : 0 < (l2.length : Int) := of_decide_eq_true (by first | (with_reducible assumption) | assumption)
          obtain ⟨ad190, e190, hx190_0⟩ := Kd.at_int HR2.out 0 p190 q190
          have hw190_0 := hx190_0
          (try rw [show ((0 : Int)).toNat = 0 from rfl] at hw190_0)
          (try rw [show 0 * 1 = 0 from rfl] at hw190_0)
          (try rw [Addr.add_zero'] at hw190_0)
          obtain rfl : ad186 = ad190 := (by injection e190)
          have qi190 : (0 < l2.length) = True := eq_true (by omega)
          (try rw [show ((0 : Int)).toNat = 0 from rfl] at hx190_0)
          (try rw [Addr.add_zero'] at hx190_0)
          try replace hx190_0 := (HB.out.cell (World.block_lt_of_cell? w _ hx190_0)).trans hx190_0
          replace p190 := eq_true p190
          replace q190 := eq_true q190
          have p191 : 0 ≤ (1 : Int) := (by omega)
          have q191 : 1 < (l1.length : Int) := of_decide_eq_true (by first | (with_reducible assumption) | assumption)
          obtain ⟨ad191, e191, hx191_0⟩ := Kd.at_int HR1.out 1 p191 q191
          have hw191_0 := hx191_0
          (try rw [show ((1 : Int)).toNat = 1 from rfl] at hw191_0)
          (try rw [show 1 * 1 = 1 from rfl] at hw191_0)
          (try simp only [Nat.reduceMul, Nat.reduceEqDiff, Go.Addr.add, ↓reduceIte] at hw191_0)
          obtain rfl : ad185 = ad191 := (by injection e191)
          (try simp only [show (1 : Int).toNat = 1 from rfl, Nat.reduceMul, Nat.reduceEqDiff, Go.Addr.add, ↓reduceIte] at hx191_0)
          have qi191 : (1 < l1.length) = True := eq_true (by omega)
          (try rw [show ((1 : Int)).toNat = 1 from rfl] at hx191_0)
          try replace hx191_0 := (HB.out.cell (World.block_lt_of_cell? w _ hx191_0)).trans hx191_0
          replace p191 := eq_true p191
          replace q191 := eq_true q191
          have p192 : 0 ≤ (1 : Int) := (by omega)
          have q192 : 1 < (l2.length : Int) := of_decide_eq_true (by first | (with_reducible assumption) | assumption)
          obtain ⟨ad192, e192, hx192_0⟩ := Kd.at_int HR2.out 1 p192 q192
          have hw192_0 := hx192_0
          (try rw [show ((1 : Int)).toNat = 1 from rfl] at hw192_0)
          (try rw [show 1 * 1 = 1 from rfl] at hw192_0)
          (try simp only [Nat.reduceMul, Nat.reduceEqDiff, Go.Addr.add, ↓reduceIte] at hw192_0)
          obtain rfl : ad186 = ad192 := (by injection e192)
          (try simp only [show (1 : Int).toNat = 1 from rfl, Nat.reduceMul, Nat.reduceEqDiff, Go.Addr.add, ↓reduceIte] at hx192_0)
          have qi192 : (1 < l2.length) = True := eq_true (by omega)
          (try rw [show ((1 : Int)).toNat = 1 from rfl] at hx192_0)
          try replace hx192_0 := (HB.out.cell (World.block_lt_of_cell? w _ hx192_0)).trans hx192_0
          replace p192 := eq_true p192
          replace q192 := eq_true q192
          refine start_ (n := 30) (S := fun w' => w'.cell? ad185 = some (.int .i64 (rd l1 0)) ∧ w'.cell? ad186 = some (.int .i64 (rd l2 0)) ∧ w'.cell? ad185 = some (.int .i64 (rd l1 0)) ∧ w'.cell? ⟨ad186.block, ad186.off + 1, none⟩ = some (.int .i64 (rd l2 1)) ∧ w'.cell? ⟨ad185.block, ad185.off + 1, none⟩ = some (.int .i64 (rd l1 1)) ∧ w'.cell? ad186 = some (.int .i64 (rd l2 0)) ∧ w'.cell? ⟨ad185.block, ad185.off + 1, none⟩ = some (.int .i64 (rd l1 1)) ∧ w'.cell? ⟨ad186.block, ad186.off + 1, none⟩ = some (.int .i64 (rd l2 1))) (ds := []) (Pt.bm 30 0) (by kernel_rfl) rfl rfl ⟨((HB.out.cell (World.block_lt_of_cell? w _ hw185_0)).trans hw185_0), ((HB.out.cell (World.block_lt_of_cell? w _ hw186_0)).trans hw186_0), ((HB.out.cell (World.block_lt_of_cell? w _ hw187_0)).trans hw187_0), ((HB.out.cell (World.block_lt_of_cell? w _ hw188_0)).trans hw188_0), ((HB.out.cell (World.block_lt_of_cell? w _ hw189_0)).trans hw189_0), ((HB.out.cell (World.block_lt_of_cell? w _ hw190_0)).trans hw190_0), ((HB.out.cell (World.block_lt_of_cell? w _ hw191_0)).trans hw191_0), ((HB.out.cell (World.block_lt_of_cell? w _ hw192_0)).trans hw192_0)⟩ (fun hHeld => ?_); refine with_tabW spec_l1Between.tab6 spec_l1Between.bits6 (fun HT_ HW_ => ?_)
          generalize w.drew = w34 at HB hx185_0 hx186_0 hx187_0 hx188_0 hx189_0 hx190_0 hx191_0 hx192_0 hHeld ⊢
          refine Pt.pu 0 (some 48) (Pt.bm 30 1) (any_of HT_.out (by kernel_rfl)) ?_
          refine Pt.pu 1 (some 49) (Pt.bm 30 3) (any_of HT_.out (by kernel_rfl)) ?_
          refine Pt.pu 3 (some 51) (Pt.bm 30 11) (any_of HT_.out (by kernel_rfl)) ?_
          refine Pt.pu 4 (some 52) (Pt.bm 30 27) (any_of HT_.out (by kernel_rfl)) ?_
          refine Pt.pu 7 (some 55) (Pt.bm 30 155) (any_of HT_.out (by kernel_rfl)) ?_
          refine Pt.pu 8 (some 56) (Pt.bm 30 411) (any_of HT_.out (by kernel_rfl)) ?_
          refine Pt.pu 10 (some 58) (Pt.bm 30 1435) (any_of HT_.out (by kernel_rfl)) ?_
          refine Pt.pu 11 (some 59) (Pt.bm 30 3483) (any_of HT_.out (by kernel_rfl)) ?_
          refine Pt.pu 14 (some 62) (Pt.bm 30 19867) (any_of HT_.out (by kernel_rfl)) ?_
          refine Pt.pu 15 (some 63) (Pt.bm 30 52635) (any_of HT_.out (by kernel_rfl)) ?_
          refine Pt.pu 17 (some 65) (Pt.bm 30 183707) (any_of HT_.out (by kernel_rfl)) ?_
          refine Pt.pu 18 (some 66) (Pt.bm 30 445851) (any_of HT_.out (by kernel_rfl)) ?_
          refine Pt.pu 21 (some 69) (Pt.bm 30 2543003) (any_of HT_.out (by kernel_rfl)) ?_
          refine Pt.pu 22 (some 70) (Pt.bm 30 6737307) (any_of HT_.out (by kernel_rfl)) ?_
          refine Pt.pu 24 (some 72) (Pt.bm 30 23514523) (any_of HT_.out (by kernel_rfl)) ?_
          refine Pt.pu 25 (some 73) (Pt.bm 30 57068955) (any_of HT_.out (by kernel_rfl)) ?_
          refine Pt.tk 2 (some 50) (Pt.bm 30 57068959) rfl rfl (take_ofW HT_.out HW_.out (by kernel_rfl)) hHeld (Or.inl ⟨by rfl, by rintro w' ⟨s0, s1, s2, s3, s4, s5, s6, s7⟩; go_simp; with_reducible rfl⟩) ?_
          refine Pt.tk 5 (some 53) (Pt.bm 30 57068991) rfl rfl (take_ofW HT_.out HW_.out (by kernel_rfl)) hHeld (Or.inl ⟨by rfl, by rintro w' ⟨s0, s1, s2, s3, s4, s5, s6, s7⟩; go_simp; with_reducible rfl⟩) ?_
          refine Pt.pu 6 (some 54) (Pt.bm 30 57069055) (any_of HT_.out (by kernel_rfl)) ?_
          refine Pt.tk 9 (some 57) (Pt.bm 30 57069567) rfl rfl (take_ofW HT_.out HW_.out (by kernel_rfl)) hHeld (Or.inl ⟨by rfl, by rintro w' ⟨s0, s1, s2, s3, s4, s5, s6, s7⟩; go_simp; with_reducible rfl⟩) ?_
          refine Pt.tk 12 (some 60) (Pt.bm 30 57073663) rfl rfl (take_ofW HT_.out HW_.out (by kernel_rfl)) hHeld (Or.inl ⟨by rfl, by rintro w' ⟨s0, s1, s2, s3, s4, s5, s6, s7⟩; go_simp; with_reducible rfl⟩) ?_
          refine Pt.pu 13 (some 61) (Pt.bm 30 57081855) (any_of HT_.out (by kernel_rfl)) ?_
          refine Pt.tk 16 (some 64) (Pt.bm 30 57147391) rfl rfl (take_ofW HT_.out HW_.out (by kernel_rfl)) hHeld (Or.inl ⟨by rfl, by rintro w' ⟨s0, s1, s2, s3, s4, s5, s6, s7⟩; go_simp; with_reducible rfl⟩) ?_
          refine Pt.tk 19 (some 67) (Pt.bm 30 57671679) rfl rfl (take_ofW HT_.out HW_.out (by kernel_rfl)) hHeld (Or.inl ⟨by rfl, by rintro w' ⟨s0, s1, s2, s3, s4, s5, s6, s7⟩; go_simp; with_reducible rfl⟩) ?_
          refine Pt.pu 20 (some 68) (Pt.bm 30 58720255) (any_of HT_.out (by kernel_rfl)) ?_
          refine Pt.tk 23 (some 71) (Pt.bm 30 67108863) rfl rfl (take_ofW HT_.out HW_.out (by kernel_rfl)) hHeld (Or.inl ⟨by rfl, by rintro w' ⟨s0, s1, s2, s3, s4, s5, s6, s7⟩; go_simp; with_reducible rfl⟩) ?_
          refine Pt.tk 26 (some 74) (Pt.bm 30 134217727) rfl rfl (take_ofW HT_.out HW_.out (by kernel_rfl)) hHeld (Or.inl ⟨by rfl, by rintro w' ⟨s0, s1, s2, s3, s4, s5, s6, s7⟩; go_simp; with_reducible rfl⟩) ?_
          refine Pt.pu 27 (some 75) (Pt.bm 30 268435455) (any_of HT_.out (by kernel_rfl)) ?_
          refine one_ (i := 28) (N := some 76) (Pt.bm 30 536870911) rfl rfl (one_of HT_.out (by kernel_rfl)) (by decide) (fun K hK => ?_)
          refine goes_ Try.func112 (by kernel_rfl) rfl #[.int .i64 (wrap64 ((rd l1 0) * (rd l2 0))), .int .i64 (wrap64 ((rd l1 0) * (rd l2 1))), .int .i64 (wrap64 ((rd l1 1) * (rd l2 0))), .int .i64 (wrap64 ((rd l1 1) * (rd l2 1)))] (by rfl) rfl rfl (by (try simp only [List.map_toArray, List.map_cons, List.map_nil]); first | done | rfl | (simp only [List.length_drop, List.length_take]; rfl)) ?_
          with_reducible refine (spec_l1Four.calls k (wrap64 ((rd l1 0) * (rd l2 0))) (wrap64 ((rd l1 0) * (rd l2 1))) (wrap64 ((rd l1 1) * (rd l2 0))) (wrap64 ((rd l1 1) * (rd l2 1))) t193 _ A29.out).mono ?_
          rintro e w35 ⟨v194, rfl, ho0, hb⟩
          refine ⟨_, rfl, ?_⟩
          have n0_ := Aside0.mk (Kd.R_lower ho0 (below_size (by repeat (first | (with_reducible first | exact HB.out | apply bwA | apply bwN | apply bwD) | exact HB.out))))
          have n1_ := Aside0.mk (below_step (by repeat (first | (with_reducible first | exact HB.out | apply bwA | apply bwN | apply bwD) | exact HB.out)) hb)
          clear HB
          have HO195 := n0_
          have HB := n1_
          clear n0_ n1_
          (try clear hb)
          (try clear hb2)
          (try clear hk)
          (try clear hi)
          (try clear ho0)
          refine hK.out _ _ ⟨((HB.out.cell (World.block_lt_of_cell? w _ hw185_0)).trans hw185_0), ((HB.out.cell (World.block_lt_of_cell? w _ hw186_0)).trans hw186_0), ((HB.out.cell (World.block_lt_of_cell? w _ hw187_0)).trans hw187_0), ((HB.out.cell (World.block_lt_of_cell? w _ hw188_0)).trans hw188_0), ((HB.out.cell (World.block_lt_of_cell? w _ hw189_0)).trans hw189_0), ((HB.out.cell (World.block_lt_of_cell? w _ hw190_0)).trans hw190_0), ((HB.out.cell (World.block_lt_of_cell? w _ hw191_0)).trans hw191_0), ((HB.out.cell (World.block_lt_of_cell? w _ hw192_0)).trans hw192_0)⟩ (fun hHeld => ?_)
          clear hK K
          refine norm_ (a' := ?_) ?_ ?_
          rotate_left
          ·show Act.put _ (some 76) _ = _
           simp only [Act.put, List.setIfInBounds_toArray, List.set_cons_zero, List.set_cons_succ, i64_w, i32_w]
           rfl
          refine Pt.pu 29 (some 7) (Pt.bm 30 1073741823) (any_of HT_.out (by kernel_rfl)) ?_
          refine done_ (done_of HT_.out (by kernel_rfl)) ?_
          try go_wp2
          have n0_ := Aside0.mk (Kd.R_drew HO195.out)
          have n1_ := Aside0.mk (below_drew1 HB.out)
          clear HO195
          clear HB
          have HO195 := n0_
          have HB := n1_
          clear n0_ n1_
          obtain ⟨Ao37, co37, eo37⟩ := Kd.R_slice HO195.out
          (first | subst eo37 | (injection eo37 with f1_ f2_ f3_; have f4_ := f1_.symm; have f5_ := f3_.symm; clear f1_ f2_ f3_; subst f4_; subst f5_))
          have p196 : 0 ≤ (0 : Int) := (by omega)
          have q196 : 0 < (t193.length : Int) := of_decide_eq_true (by first | (with_reducible assumption) | assumption)
          obtain ⟨ad196, e196, hx196_0⟩ := Kd.at_int (Kd.R_reads' HO195.out).2.2 0 p196 q196
          cases e196
          have qi196 : (0 < t193.length) = True := eq_true (by omega)
          (try rw [show ((0 : Int)).toNat = 0 from rfl] at hx196_0)
          (try rw [Addr.add_zero'] at hx196_0)
          replace p196 := eq_true p196
          replace q196 := eq_true q196
          have p198 : 0 ≤ (1 : Int) := (by omega)
          have q198 : 1 < (t193.length : Int) := of_decide_eq_true (by first | (with_reducible assumption) | assumption)
          obtain ⟨ad198, e198, hx198_0⟩ := Kd.at_int (Kd.R_reads' HO195.out).2.2 1 p198 q198
          obtain rfl : ad196 = ad198 := (by injection e198)
          (try simp only [show (1 : Int).toNat = 1 from rfl, Nat.reduceMul, Nat.reduceEqDiff, Go.Addr.add, ↓reduceIte] at hx198_0)
          have qi198 : (1 < t193.length) = True := eq_true (by omega)
          (try rw [show ((1 : Int)).toNat = 1 from rfl] at hx198_0)
          replace p198 := eq_true p198
          replace q198 := eq_true q198
          refine start_ (n := 10) (S := fun w' => w'.cell? ad196 = some (.int .i64 (rd t193 0)) ∧ w'.cell? ⟨ad196.block, ad196.off + 1, none⟩ = some (.int .i64 (rd t193 1))) (ds := []) (Pt.bm 10 0) (by kernel_rfl) rfl rfl ⟨hx196_0, hx198_0⟩ (fun hHeld => ?_); refine with_tabW spec_l1Between.tab7 spec_l1Between.bits7 (fun HT_ HW_ => ?_)
          generalize w35.drew = w36 at HO195 HB hx196_0 hx198_0 hHeld ⊢
          refine Pt.pu 0 (some 77) (Pt.bm 10 1) (any_of HT_.out (by kernel_rfl)) ?_
          refine Pt.pu 1 (some 78) (Pt.bm 10 3) (any_of HT_.out (by kernel_rfl)) ?_
          refine Pt.pu 4 (some 81) (Pt.bm 10 19) (any_of HT_.out (by kernel_rfl)) ?_
          refine Pt.pu 5 (some 82) (Pt.bm 10 51) (any_of HT_.out (by kernel_rfl)) ?_
          refine Pt.tk 2 (some 79) (Pt.bm 10 55) rfl rfl (take_ofW HT_.out HW_.out (by kernel_rfl)) hHeld (Or.inl ⟨by rfl, by rintro w' ⟨s0, s1⟩; go_simp; with_reducible rfl⟩) ?_
          refine Pt.tk 6 (some 83) (Pt.bm 10 119) rfl rfl (take_ofW HT_.out HW_.out (by kernel_rfl)) hHeld (Or.inl ⟨by rfl, by rintro w' ⟨s0, s1⟩; go_simp; with_reducible rfl⟩) ?_
          refine one_ (i := 3) (N := some 80) (Pt.bm 10 127) rfl rfl (one_of HT_.out (by kernel_rfl)) (by decide) (fun K hK => ?_)
          refine goes_ Try.func111 (by kernel_rfl) rfl #[.int .i64 (rd t193 0)] (by rfl) rfl rfl (by (try simp only [List.map_toArray, List.map_cons, List.map_nil]); first | done | rfl | (simp only [List.length_drop, List.length_take]; rfl)) ?_
          with_reducible refine (spec_l1Held.calls (rd t193 0) t197 _ A31.out).mono ?_
          rintro e w' ⟨rfl, ⟨nd, rfl⟩⟩
          refine ⟨_, rfl, ?_⟩
          refine hK.out _ _ ⟨hHeld.1, hHeld.2⟩ (fun hHeld => ?_)
          clear hK K
          refine norm_ (a' := ?_) ?_ ?_
          rotate_left
          ·show Act.put _ (some 80) _ = _
           simp only [Act.put, List.setIfInBounds_toArray, List.set_cons_zero, List.set_cons_succ, i64_w, i32_w]
           rfl
          refine one_ (i := 7) (N := some 84) (Pt.bm 10 255) rfl rfl (one_of HT_.out (by kernel_rfl)) (by decide) (fun K hK => ?_)
          refine goes_ Try.func111 (by kernel_rfl) rfl #[.int .i64 (rd t193 1)] (by rfl) rfl rfl (by (try simp only [List.map_toArray, List.map_cons, List.map_nil]); first | done | rfl | (simp only [List.length_drop, List.length_take]; rfl)) ?_
          with_reducible refine (spec_l1Held.calls (rd t193 1) t199 _ A33.out).mono ?_
          rintro e w' ⟨rfl, ⟨nd, rfl⟩⟩
          refine ⟨_, rfl, ?_⟩
          refine hK.out _ _ ⟨hHeld.1, hHeld.2⟩ (fun hHeld => ?_)
          clear hK K
          refine norm_ (a' := ?_) ?_ ?_
          rotate_left
          ·show Act.put _ (some 84) _ = _
           simp only [Act.put, List.setIfInBounds_toArray, List.set_cons_zero, List.set_cons_succ, i64_w, i32_w]
           rfl
          refine one_ (i := 8) (N := some 85) (Pt.bm 10 511) rfl rfl (one_of HT_.out (by kernel_rfl)) (by decide) (fun K hK => ?_)
          refine Kd.R_lit_step (Kd.int .i64) _ 3 ?hg (N := 85) ?hd (xs := ([t197, t199] : List Int)) (inner := [.int .i64 t197, .int .i64 t199]) (ok := fun _ => True) (okp := fun _ => True) ?hr ?hp (fun _ hk => hk) trivial (Below.refl _ _) (Nat.le_refl _) (by simp) ?_; (case hd => rfl); (case hg => rfl); (case hr => first | (go_simp; done) | (go_simp; rfl)); (case hp => exact (Reps.one (show Kd.M (Kd.int .i64) _ _ _ t197 [.int .i64 t197] from rfl) (Reps.one (show Kd.M (Kd.int .i64) _ _ _ t199 [.int .i64 t199] from rfl) (Reps.none _ _))))
          intro v201 w38 ho39 hb hg_ hnew_
          have HS0_ := (hb.cell (World.block_lt_of_cell? _ _ (hHeld.1))).trans (hHeld.1)
          have HS1_ := (hb.cell (World.block_lt_of_cell? _ _ (hHeld.2))).trans (hHeld.2)
          clear hg_ hnew_
          (first | rw [← Ny200.out] at ho39 | (simp only [Int.reduceToNat] at ho39; rw [← Ny200.out] at ho39))
          have n0_ := Aside0.mk (Kd.R_elder' (by (with_reducible repeat (first | apply Kd.R_alloc | apply Kd.R_drewN | apply Kd.R_drew)); exact HO195.out) (Kd.R_base ho39) hb)
          have n1_ := Aside0.mk (Kd.R_lower (Kd.R_new' ho39 (Kd.R_lt (by (with_reducible repeat (first | apply Kd.R_alloc | apply Kd.R_drewN | apply Kd.R_drew)); exact HO195.out))) (below_size (by repeat (first | (with_reducible first | exact HB.out | apply bwA | apply bwN | apply bwD) | exact HB.out))))
          have n2_ := Aside0.mk (below_step (by repeat (first | (with_reducible first | exact HB.out | apply bwA | apply bwN | apply bwD) | exact HB.out)) hb)
          clear HO195
          clear HB
          have HO195 := n0_
          have HO202 := n1_
          have HB := n2_
          clear n0_ n1_ n2_
          clear hb ho39
          refine hK.out _ _ ⟨HS0_, HS1_⟩ (fun hHeld => ?_)
          clear hK K
          refine norm_ (a' := ?_) ?_ ?_
          rotate_left
          ·show Act.put _ (some 85) _ = _
           simp only [Act.put, List.setIfInBounds_toArray, List.set_cons_zero, List.set_cons_succ, i64_w, i32_w]
           rfl
          refine Pt.pu 9 (some 6) (Pt.bm 10 1023) (any_of HT_.out (by kernel_rfl)) ?_
          refine done_ (done_of HT_.out (by kernel_rfl)) ?_
          try go_wp2
          go_ret
          exact ⟨_, by first | rfl | (simp [errW_none, errW_some] <;> rfl) | (simp [*, errW_none, errW_some] <;> rfl), by (with_reducible repeat (first | apply Kd.R_alloc | apply Kd.R_drewN | apply Kd.R_drew)); exact Kd.R_mono HO202.out (fun _ hk => trivial), by repeat (first | (with_reducible first | exact HB.out | apply bwA | apply bwN | apply bwD) | exact HB.out)⟩
         ·rw [if_neg c32] at H
          exact absurd H (by simp)
        ·rw [if_neg c30] at H
         exact absurd H (by simp)
       ·rw [if_neg c28] at H
        exact absurd H (by simp)
      ·rw [if_neg c27] at H
       exact absurd H (by simp)
     ·rw [if_neg c26] at H
      exact absurd H (by simp)
    ·rw [if_neg c25] at H
     exact absurd H (by simp)
   ·rw [if_neg c24] at H
    have c24b0 : (a0 == 4) = false := beq_eq_false_iff_ne.mpr c24
    have c24b1 : (a0 != 4) = true := bne_iff_ne.mpr c24
    by_cases c40 : a0 = 5
    ·rw [if_pos c40] at H
     have c40b0 : (a0 == 5) = true := beq_iff_eq.mpr c40
     have c40b1 : (a0 != 5) = false := bne_eq_false_iff_eq.mpr c40
     clear c40
     by_cases c41 : 1 < (l1.length : Int)
     ·rw [if_pos c41] at H
      have c41b0 : decide (1 < (l1.length : Int)) = true := decide_eq_true c41
      have c41b1 : decide (1 < l1.length) = true := decide_eq_true (by omega)
      clear c41
      by_cases c42 : 0 < (l2.length : Int)
      ·rw [if_pos c42] at H
       have c42b0 : decide (0 < (l2.length : Int)) = true := decide_eq_true c42
       have c42b1 : decide (0 < l2.length) = true := decide_eq_true (by omega)
       clear c42
       replace H := Option.bind_eq_some_iff.mp H
       obtain ⟨t205, A430, H⟩ := H
       replace H : (if 0 < (l1.length : Int) then (if 1 < (l2.length : Int) then ((spec_l1Truth.f (decide ((rd l1 0) < (rd l2 1)))).bind fun t208 => (some (([t205, t208] : List Int)))) else (none)) else (none)) = some r := H
       have A43 := Aside0.mk A430
       clear A430
       by_cases c44 : 0 < (l1.length : Int)
       ·rw [if_pos c44] at H
        have c44b0 : decide (0 < (l1.length : Int)) = true := decide_eq_true c44
        have c44b1 : decide (0 < l1.length) = true := decide_eq_true (by omega)
        clear c44
        by_cases c45 : 1 < (l2.length : Int)
        ·rw [if_pos c45] at H
         have c45b0 : decide (1 < (l2.length : Int)) = true := decide_eq_true c45
         have c45b1 : decide (1 < l2.length) = true := decide_eq_true (by omega)
         clear c45
         replace H := Option.bind_eq_some_iff.mp H
         obtain ⟨t208, A460, H⟩ := H
         replace H : (some (([t205, t208] : List Int))) = some r := H
         have A46 := Aside0.mk A460
         clear A460
         obtain ⟨y209, hy209⟩ : ∃ y_ : List Int, y_ = (([t205, t208] : List Int)) := ⟨_, rfl⟩
         replace H : (some y209) = some r := by first | (rw [hy209]; with_reducible exact H) | (have H2_ := (Option.bind_some _ _).symm.trans H; rw [hy209]; with_reducible exact H2_) | (have H2_ := (Option.bind_some _ _).symm.trans H; with_reducible exact H2_) | with_reducible exact H | (rw [hy209]; exact H) | exact H
         have Ny209 := Aside0.mk hy209
         clear hy209
         obtain rfl := Option.some.inj H
         go_enter Try.func74, Try.ntmps74
         try go_wp2
         have n0_ := Aside0.mk (below_drew1 HB.out)
         clear HB
         have HB := n0_
         clear n0_
         have p203 : 0 ≤ (1 : Int) := (by omega)
         have q203 : 1 < (l1.length : Int) := of_decide_eq_true (by first | (with_reducible assumption) | assumption)
         obtain ⟨ad203, e203, hx203_0⟩ := Kd.at_int HR1.out 1 p203 q203
         have hw203_0 := hx203_0
         (try rw [show ((1 : Int)).toNat = 1 from rfl] at hw203_0)
         (try rw [show 1 * 1 = 1 from rfl] at hw203_0)
         (try simp only [Nat.reduceMul, Nat.reduceEqDiff, Go.Addr.add, ↓reduceIte] at hw203_0)
         cases e203
         (try simp only [show (1 : Int).toNat = 1 from rfl, Nat.reduceMul, Nat.reduceEqDiff, Go.Addr.add, ↓reduceIte] at hx203_0)
         have qi203 : (1 < l1.length) = True := eq_true (by omega)
         (try rw [show ((1 : Int)).toNat = 1 from rfl] at hx203_0)
         try replace hx203_0 := (HB.out.cell (World.block_lt_of_cell? w _ hx203_0)).trans hx203_0
         replace p203 := eq_true p203
         replace q203 := eq_true q203
         have p204 : 0 ≤ (0 : Int) := (by omega)
         have q204 : 0 < (l2.length : Int) := of_decide_eq_true (by first | (with_reducible assumption) | assumption)
         obtain ⟨ad204, e204, hx204_0⟩ := Kd.at_int HR2.out 0 p204 q204
         have hw204_0 := hx204_0
         (try rw [show ((0 : Int)).toNat = 0 from rfl] at hw204_0)
         (try rw [show 0 * 1 = 0 from rfl] at hw204_0)
         (try rw [Addr.add_zero'] at hw204_0)
         cases e204
         have qi204 : (0 < l2.length) = True := eq_true (by omega)
         (try rw [show ((0 : Int)).toNat = 0 from rfl] at hx204_0)
         (try rw [Addr.add_zero'] at hx204_0)
         try replace hx204_0 := (HB.out.cell (World.block_lt_of_cell? w _ hx204_0)).trans hx204_0
         replace p204 := eq_true p204
         replace q204 := eq_true q204
         have p206 : 0 ≤ (0 : Int) := (by omega)
         have q206 : 0 < (l1.length : Int) := of_decide_eq_true (by first | (with_reducible assumption) | assumption)
         obtain ⟨ad206, e206, hx206_0⟩ := Kd.at_int HR1.out 0 p206 q206
         have hw206_0 := hx206_0
         (try rw [show ((0 : Int)).toNat = 0 from rfl] at hw206_0)
         (try rw [show 0 * 1 = 0 from rfl] at hw206_0)
         (try rw [Addr.add_zero'] at hw206_0)
         obtain rfl : ad203 = ad206 := (by injection e206)
         have qi206 : (0 < l1.length) = True := eq_true (by omega)
         (try rw [show ((0 : Int)).toNat = 0 from rfl] at hx206_0)
         (try rw [Addr.add_zero'] at hx206_0)
         try replace hx206_0 := (HB.out.cell (World.block_lt_of_cell? w _ hx206_0)).trans hx206_0
         replace p206 := eq_true p206
         replace q206 := eq_true q206
         have p207 : 0 ≤ (1 : Int) := (by omega)
         have q207 : 1 < (l2.length : Int) := of_decide_eq_true (by first | (with_reducible assumption) | assumption)
         obtain ⟨ad207, e207, hx207_0⟩ := Kd.at_int HR2.out 1 p207 q207
         have hw207_0 := hx207_0
         (try rw [show ((1 : Int)).toNat = 1 from rfl] at hw207_0)
         (try rw [show 1 * 1 = 1 from rfl] at hw207_0)
         (try simp only [Nat.reduceMul, Nat.reduceEqDiff, Go.Addr.add, ↓reduceIte] at hw207_0)
         obtain rfl : ad204 = ad207 := (by injection e207)
         (try simp only [show (1 : Int).toNat = 1 from rfl, Nat.reduceMul, Nat.reduceEqDiff, Go.Addr.add, ↓reduceIte] at hx207_0)
         have qi207 : (1 < l2.length) = True := eq_true (by omega)
         (try rw [show ((1 : Int)).toNat = 1 from rfl] at hx207_0)
         try replace hx207_0 := (HB.out.cell (World.block_lt_of_cell? w _ hx207_0)).trans hx207_0
         replace p207 := eq_true p207
         replace q207 := eq_true q207
         refine start_ (n := 18) (S := fun w' => w'.cell? ⟨ad203.block, ad203.off + 1, none⟩ = some (.int .i64 (rd l1 1)) ∧ w'.cell? ad204 = some (.int .i64 (rd l2 0)) ∧ w'.cell? ad203 = some (.int .i64 (rd l1 0)) ∧ w'.cell? ⟨ad204.block, ad204.off + 1, none⟩ = some (.int .i64 (rd l2 1))) (ds := []) (Pt.bm 18 0) (by kernel_rfl) rfl rfl ⟨((HB.out.cell (World.block_lt_of_cell? w _ hw203_0)).trans hw203_0), ((HB.out.cell (World.block_lt_of_cell? w _ hw204_0)).trans hw204_0), ((HB.out.cell (World.block_lt_of_cell? w _ hw206_0)).trans hw206_0), ((HB.out.cell (World.block_lt_of_cell? w _ hw207_0)).trans hw207_0)⟩ (fun hHeld => ?_); refine with_tabW spec_l1Between.tab9 spec_l1Between.bits9 (fun HT_ HW_ => ?_)
         generalize w.drew = w47 at HB hx203_0 hx204_0 hx206_0 hx207_0 hHeld ⊢
         refine Pt.pu 0 (some 88) (Pt.bm 18 1) (any_of HT_.out (by kernel_rfl)) ?_
         refine Pt.pu 1 (some 89) (Pt.bm 18 3) (any_of HT_.out (by kernel_rfl)) ?_
         refine Pt.pu 3 (some 91) (Pt.bm 18 11) (any_of HT_.out (by kernel_rfl)) ?_
         refine Pt.pu 4 (some 92) (Pt.bm 18 27) (any_of HT_.out (by kernel_rfl)) ?_
         refine Pt.pu 8 (some 96) (Pt.bm 18 283) (any_of HT_.out (by kernel_rfl)) ?_
         refine Pt.pu 9 (some 97) (Pt.bm 18 795) (any_of HT_.out (by kernel_rfl)) ?_
         refine Pt.pu 11 (some 99) (Pt.bm 18 2843) (any_of HT_.out (by kernel_rfl)) ?_
         refine Pt.pu 12 (some 100) (Pt.bm 18 6939) (any_of HT_.out (by kernel_rfl)) ?_
         refine Pt.tk 2 (some 90) (Pt.bm 18 6943) rfl rfl (take_ofW HT_.out HW_.out (by kernel_rfl)) hHeld (Or.inl ⟨by rfl, by rintro w' ⟨s0, s1, s2, s3⟩; go_simp; with_reducible rfl⟩) ?_
         refine Pt.tk 5 (some 93) (Pt.bm 18 6975) rfl rfl (take_ofW HT_.out HW_.out (by kernel_rfl)) hHeld (Or.inl ⟨by rfl, by rintro w' ⟨s0, s1, s2, s3⟩; go_simp; with_reducible rfl⟩) ?_
         refine Pt.pu 6 (some 94) (Pt.bm 18 7039) (any_of HT_.out (by kernel_rfl)) ?_
         refine Pt.tk 10 (some 98) (Pt.bm 18 8063) rfl rfl (take_ofW HT_.out HW_.out (by kernel_rfl)) hHeld (Or.inl ⟨by rfl, by rintro w' ⟨s0, s1, s2, s3⟩; go_simp; with_reducible rfl⟩) ?_
         refine Pt.tk 13 (some 101) (Pt.bm 18 16255) rfl rfl (take_ofW HT_.out HW_.out (by kernel_rfl)) hHeld (Or.inl ⟨by rfl, by rintro w' ⟨s0, s1, s2, s3⟩; go_simp; with_reducible rfl⟩) ?_
         refine Pt.pu 14 (some 102) (Pt.bm 18 32639) (any_of HT_.out (by kernel_rfl)) ?_
         refine one_ (i := 7) (N := some 95) (Pt.bm 18 32767) rfl rfl (one_of HT_.out (by kernel_rfl)) (by decide) (fun K hK => ?_)
         refine goes_ Try.func113 (by kernel_rfl) rfl #[.bool (decide ((rd l1 1) < (rd l2 0)))] (by rfl) rfl rfl (by (try simp only [List.map_toArray, List.map_cons, List.map_nil]); first | done | rfl | (simp only [List.length_drop, List.length_take]; rfl)) ?_
         with_reducible refine (spec_l1Truth.calls (decide ((rd l1 1) < (rd l2 0))) t205 _ A43.out).mono ?_
         rintro e w' ⟨rfl, ⟨nd, rfl⟩⟩
         refine ⟨_, rfl, ?_⟩
         refine hK.out _ _ ⟨((HB.out.cell (World.block_lt_of_cell? w _ hw203_0)).trans hw203_0), ((HB.out.cell (World.block_lt_of_cell? w _ hw204_0)).trans hw204_0), ((HB.out.cell (World.block_lt_of_cell? w _ hw206_0)).trans hw206_0), ((HB.out.cell (World.block_lt_of_cell? w _ hw207_0)).trans hw207_0)⟩ (fun hHeld => ?_)
         clear hK K
         refine norm_ (a' := ?_) ?_ ?_
         rotate_left
         ·show Act.put _ (some 95) _ = _
          simp only [Act.put, List.setIfInBounds_toArray, List.set_cons_zero, List.set_cons_succ, i64_w, i32_w]
          rfl
         refine one_ (i := 15) (N := some 103) (Pt.bm 18 65535) rfl rfl (one_of HT_.out (by kernel_rfl)) (by decide) (fun K hK => ?_)
         refine goes_ Try.func113 (by kernel_rfl) rfl #[.bool (decide ((rd l1 0) < (rd l2 1)))] (by rfl) rfl rfl (by (try simp only [List.map_toArray, List.map_cons, List.map_nil]); first | done | rfl | (simp only [List.length_drop, List.length_take]; rfl)) ?_
         with_reducible refine (spec_l1Truth.calls (decide ((rd l1 0) < (rd l2 1))) t208 _ A46.out).mono ?_
         rintro e w' ⟨rfl, ⟨nd, rfl⟩⟩
         refine ⟨_, rfl, ?_⟩
         refine hK.out _ _ ⟨((HB.out.cell (World.block_lt_of_cell? w _ hw203_0)).trans hw203_0), ((HB.out.cell (World.block_lt_of_cell? w _ hw204_0)).trans hw204_0), ((HB.out.cell (World.block_lt_of_cell? w _ hw206_0)).trans hw206_0), ((HB.out.cell (World.block_lt_of_cell? w _ hw207_0)).trans hw207_0)⟩ (fun hHeld => ?_)
         clear hK K
         refine norm_ (a' := ?_) ?_ ?_
         rotate_left
         ·show Act.put _ (some 103) _ = _
          simp only [Act.put, List.setIfInBounds_toArray, List.set_cons_zero, List.set_cons_succ, i64_w, i32_w]
          rfl
         refine one_ (i := 16) (N := some 104) (Pt.bm 18 131071) rfl rfl (one_of HT_.out (by kernel_rfl)) (by decide) (fun K hK => ?_)
         refine Kd.R_lit_step (Kd.int .i64) _ 3 ?hg (N := 104) ?hd (xs := ([t205, t208] : List Int)) (inner := [.int .i64 t205, .int .i64 t208]) (ok := fun _ => True) (okp := fun _ => True) ?hr ?hp (fun _ hk => hk) trivial (Below.refl _ _) (Nat.le_refl _) (by simp) ?_; (case hd => rfl); (case hg => rfl); (case hr => first | (go_simp; done) | (go_simp; rfl)); (case hp => exact (Reps.one (show Kd.M (Kd.int .i64) _ _ _ t205 [.int .i64 t205] from rfl) (Reps.one (show Kd.M (Kd.int .i64) _ _ _ t208 [.int .i64 t208] from rfl) (Reps.none _ _))))
         intro v210 w48 ho49 hb hg_ hnew_
         clear hg_ hnew_
         (first | rw [← Ny209.out] at ho49 | (simp only [Int.reduceToNat] at ho49; rw [← Ny209.out] at ho49))
         have n0_ := Aside0.mk (Kd.R_lower ho49 (below_size (by repeat (first | (with_reducible first | exact HB.out | apply bwA | apply bwN | apply bwD) | exact HB.out))))
         have n1_ := Aside0.mk (below_step (by repeat (first | (with_reducible first | exact HB.out | apply bwA | apply bwN | apply bwD) | exact HB.out)) hb)
         clear HB
         have HO211 := n0_
         have HB := n1_
         clear n0_ n1_
         clear hb ho49
         refine hK.out _ _ ⟨((HB.out.cell (World.block_lt_of_cell? w _ hw203_0)).trans hw203_0), ((HB.out.cell (World.block_lt_of_cell? w _ hw204_0)).trans hw204_0), ((HB.out.cell (World.block_lt_of_cell? w _ hw206_0)).trans hw206_0), ((HB.out.cell (World.block_lt_of_cell? w _ hw207_0)).trans hw207_0)⟩ (fun hHeld => ?_)
         clear hK K
         refine norm_ (a' := ?_) ?_ ?_
         rotate_left
         ·show Act.put _ (some 104) _ = _
          simp only [Act.put, List.setIfInBounds_toArray, List.set_cons_zero, List.set_cons_succ, i64_w, i32_w]
          rfl
         refine Pt.pu 17 (some 6) (Pt.bm 18 262143) (any_of HT_.out (by kernel_rfl)) ?_
         refine done_ (done_of HT_.out (by kernel_rfl)) ?_
         try go_wp2
         go_ret
         exact ⟨_, by first | rfl | (simp [errW_none, errW_some] <;> rfl) | (simp [*, errW_none, errW_some] <;> rfl), by (with_reducible repeat (first | apply Kd.R_alloc | apply Kd.R_drewN | apply Kd.R_drew)); exact HO211.out, by repeat (first | (with_reducible first | exact HB.out | apply bwA | apply bwN | apply bwD) | exact HB.out)⟩
        ·rw [if_neg c45] at H
         exact absurd H (by simp)
       ·rw [if_neg c44] at H
        exact absurd H (by simp)
      ·rw [if_neg c42] at H
       exact absurd H (by simp)
     ·rw [if_neg c41] at H
      exact absurd H (by simp)
    ·rw [if_neg c40] at H
     have c40b0 : (a0 == 5) = false := beq_eq_false_iff_ne.mpr c40
     have c40b1 : (a0 != 5) = true := bne_iff_ne.mpr c40
     by_cases c50 : a0 = 6
     ·rw [if_pos c50] at H
      have c50b0 : (a0 == 6) = true := beq_iff_eq.mpr c50
      have c50b1 : (a0 != 6) = false := bne_eq_false_iff_eq.mpr c50
      clear c50
      by_cases c51 : 0 < (l1.length : Int)
      ·rw [if_pos c51] at H
       have c51b0 : decide (0 < (l1.length : Int)) = true := decide_eq_true c51
       have c51b1 : decide (0 < l1.length) = true := decide_eq_true (by omega)
       clear c51
       by_cases c52 : 1 < (l1.length : Int)
       ·rw [if_pos c52] at H
        have c52b0 : decide (1 < (l1.length : Int)) = true := decide_eq_true c52
        have c52b1 : decide (1 < l1.length) = true := decide_eq_true (by omega)
        clear c52
        by_cases c53 : (rd l1 0) = (rd l1 1)
        ·rw [if_pos c53] at H
         have c53b0 : ((rd l1 0) == (rd l1 1)) = true := beq_iff_eq.mpr c53
         have c53b1 : ((rd l1 0) != (rd l1 1)) = false := bne_eq_false_iff_eq.mpr c53
         clear c53
         by_cases c54 : 0 < (l2.length : Int)
         ·rw [if_pos c54] at H
          have c54b0 : decide (0 < (l2.length : Int)) = true := decide_eq_true c54
          have c54b1 : decide (0 < l2.length) = true := decide_eq_true (by omega)
          clear c54
          by_cases c55 : 1 < (l2.length : Int)
          ·rw [if_pos c55] at H
           have c55b0 : decide (1 < (l2.length : Int)) = true := decide_eq_true c55
           have c55b1 : decide (1 < l2.length) = true := decide_eq_true (by omega)
           clear c55
           by_cases c56 : (rd l2 0) = (rd l2 1)
           ·rw [if_pos c56] at H
            have c56b0 : ((rd l2 0) == (rd l2 1)) = true := beq_iff_eq.mpr c56
            have c56b1 : ((rd l2 0) != (rd l2 1)) = false := bne_eq_false_iff_eq.mpr c56
            clear c56
            replace H := Option.bind_eq_some_iff.mp H
            obtain ⟨t218, A570, H⟩ := H
            replace H : (if (rd l1 0) ≤ (rd l2 1) then ((spec_l1Truth.f (decide ((rd l2 0) ≤ (rd l1 1)))).bind fun t223 => (some (([t218, t223] : List Int)))) else ((spec_l1Truth.f false).bind fun t227 => (some (([t218, t227] : List Int))))) = some r := H
            have A57 := Aside0.mk A570
            clear A570
            by_cases c58 : (rd l1 0) ≤ (rd l2 1)
            ·rw [if_pos c58] at H
             have c58b0 : decide ((rd l1 0) ≤ (rd l2 1)) = true := decide_eq_true c58
             clear c58
             replace H := Option.bind_eq_some_iff.mp H
             obtain ⟨t223, A590, H⟩ := H
             replace H : (some (([t218, t223] : List Int))) = some r := H
             have A59 := Aside0.mk A590
             clear A590
             obtain ⟨y224, hy224⟩ : ∃ y_ : List Int, y_ = (([t218, t223] : List Int)) := ⟨_, rfl⟩
             replace H : (some y224) = some r := by first | (rw [hy224]; with_reducible exact H) | (have H2_ := (Option.bind_some _ _).symm.trans H; rw [hy224]; with_reducible exact H2_) | (have H2_ := (Option.bind_some _ _).symm.trans H; with_reducible exact H2_) | with_reducible exact H | (rw [hy224]; exact H) | exact H
             have Ny224 := Aside0.mk hy224
             clear hy224
             obtain rfl := Option.some.inj H
             go_enter Try.func74, Try.ntmps74
             try go_wp2
             have n0_ := Aside0.mk (below_drew1 HB.out)
             clear HB
             have HB := n0_
             clear n0_
             have p212 : 0 ≤ (0 : Int) := (by omega)
             have q212 : 0 < (l1.length : Int) := of_decide_eq_true (by first | (with_reducible assumption) | assumption)
             obtain ⟨ad212, e212, hx212_0⟩ := Kd.at_int HR1.out 0 p212 q212
             have hw212_0 := hx212_0
             (try rw [show ((0 : Int)).toNat = 0 from rfl] at hw212_0)
             (try rw [show 0 * 1 = 0 from rfl] at hw212_0)
             (try rw [Addr.add_zero'] at hw212_0)
             cases e212
             have qi212 : (0 < l1.length) = True := eq_true (by omega)
             (try rw [show ((0 : Int)).toNat = 0 from rfl] at hx212_0)
             (try rw [Addr.add_zero'] at hx212_0)
             try replace hx212_0 := (HB.out.cell (World.block_lt_of_cell? w _ hx212_0)).trans hx212_0
             replace p212 := eq_true p212
             replace q212 := eq_true q212
             have p213 : 0 ≤ (1 : Int) := (by omega)
             have q213 : 1 < (l1.length : Int) := of_decide_eq_true (by first | (with_reducible assumption) | assumption)
             obtain ⟨ad213, e213, hx213_0⟩ := Kd.at_int HR1.out 1 p213 q213
             have hw213_0 := hx213_0
             (try rw [show ((1 : Int)).toNat = 1 from rfl] at hw213_0)
             (try rw [show 1 * 1 = 1 from rfl] at hw213_0)
             (try simp only [Nat.reduceMul, Nat.reduceEqDiff, Go.Addr.add, ↓reduceIte] at hw213_0)
             obtain rfl : ad212 = ad213 := (by injection e213)
             (try simp only [show (1 : Int).toNat = 1 from rfl, Nat.reduceMul, Nat.reduceEqDiff, Go.Addr.add, ↓reduceIte] at hx213_0)
             have qi213 : (1 < l1.length) = True := eq_true (by omega)
             (try rw [show ((1 : Int)).toNat = 1 from rfl] at hx213_0)
             try replace hx213_0 := (HB.out.cell (World.block_lt_of_cell? w _ hx213_0)).trans hx213_0
             replace p213 := eq_true p213
             replace q213 := eq_true q213
             have p214 : 0 ≤ (0 : Int) := (by omega)
             have q214 : 0 < (l2.length : Int) := of_decide_eq_true (by first | (with_reducible assumption) | assumption)
             obtain ⟨ad214, e214, hx214_0⟩ := Kd.at_int HR2.out 0 p214 q214
             have hw214_0 := hx214_0
             (try rw [show ((0 : Int)).toNat = 0 from rfl] at hw214_0)
             (try rw [show 0 * 1 = 0 from rfl] at hw214_0)
             (try rw [Addr.add_zero'] at hw214_0)
             cases e214
             have qi214 : (0 < l2.length) = True := eq_true (by omega)
             (try rw [show ((0 : Int)).toNat = 0 from rfl] at hx214_0)
             (try rw [Addr.add_zero'] at hx214_0)
             try replace hx214_0 := (HB.out.cell (World.block_lt_of_cell? w _ hx214_0)).trans hx214_0
             replace p214 := eq_true p214
             replace q214 := eq_true q214
             have p215 : 0 ≤ (1 : Int) := (by omega)
             have q215 : 1 < (l2.length : Int) := of_decide_eq_true (by first | (with_reducible assumption) | assumption)
             obtain ⟨ad215, e215, hx215_0⟩ := Kd.at_int HR2.out 1 p215 q215
             have hw215_0 := hx215_0
             (try rw [show ((1 : Int)).toNat = 1 from rfl] at hw215_0)
             (try rw [show 1 * 1 = 1 from rfl] at hw215_0)
             (try simp only [Nat.reduceMul, Nat.reduceEqDiff, Go.Addr.add, ↓reduceIte] at hw215_0)
             obtain rfl : ad214 = ad215 := (by injection e215)
             (try simp only [show (1 : Int).toNat = 1 from rfl, Nat.reduceMul, Nat.reduceEqDiff, Go.Addr.add, ↓reduceIte] at hx215_0)
             have qi215 : (1 < l2.length) = True := eq_true (by omega)
             (try rw [show ((1 : Int)).toNat = 1 from rfl] at hx215_0)
             try replace hx215_0 := (HB.out.cell (World.block_lt_of_cell? w _ hx215_0)).trans hx215_0
             replace p215 := eq_true p215
             replace q215 := eq_true q215
             have p216 : 0 ≤ (0 : Int) := (by omega)
             have q216 : 0 < (l1.length : Int) := of_decide_eq_true (by first | (with_reducible assumption) | assumption)
             obtain ⟨ad216, e216, hx216_0⟩ := Kd.at_int HR1.out 0 p216 q216
             have hw216_0 := hx216_0
             (try rw [show ((0 : Int)).toNat = 0 from rfl] at hw216_0)
             (try rw [show 0 * 1 = 0 from rfl] at hw216_0)
             (try rw [Addr.add_zero'] at hw216_0)
             obtain rfl : ad212 = ad216 := (by injection e216)
             have qi216 : (0 < l1.length) = True := eq_true (by omega)
             (try rw [show ((0 : Int)).toNat = 0 from rfl] at hx216_0)
             (try rw [Addr.add_zero'] at hx216_0)
             try replace hx216_0 := (HB.out.cell (World.block_lt_of_cell? w _ hx216_0)).trans hx216_0
             replace p216 := eq_true p216
             replace q216 := eq_true q216
             have p217 : 0 ≤ (0 : Int) := (by omega)
             have q217 : 0 < (l2.length : Int) := of_decide_eq_true (by first | (with_reducible assumption) | assumption)
             obtain ⟨ad217, e217, hx217_0⟩ := Kd.at_int HR2.out 0 p217 q217
             have hw217_0 := hx217_0
             (try rw [show ((0 : Int)).toNat = 0 from rfl] at hw217_0)
             (try rw [show 0 * 1 = 0 from rfl] at hw217_0)
             (try rw [Addr.add_zero'] at hw217_0)
             obtain rfl : ad214 = ad217 := (by injection e217)
             have qi217 : (0 < l2.length) = True := eq_true (by omega)
             (try rw [show ((0 : Int)).toNat = 0 from rfl] at hx217_0)
             (try rw [Addr.add_zero'] at hx217_0)
             try replace hx217_0 := (HB.out.cell (World.block_lt_of_cell? w _ hx217_0)).trans hx217_0
             replace p217 := eq_true p217
             replace q217 := eq_true q217
             have p219 : 0 ≤ (0 : Int) := (by omega)
             have q219 : 0 < (l1.length : Int) := of_decide_eq_true (by first | (with_reducible assumption) | assumption)
             obtain ⟨ad219, e219, hx219_0⟩ := Kd.at_int HR1.out 0 p219 q219
             have hw219_0 := hx219_0
             (try rw [show ((0 : Int)).toNat = 0 from rfl] at hw219_0)
             (try rw [show 0 * 1 = 0 from rfl] at hw219_0)
             (try rw [Addr.add_zero'] at hw219_0)
             obtain rfl : ad212 = ad219 := (by injection e219)
             have qi219 : (0 < l1.length) = True := eq_true (by omega)
             (try rw [show ((0 : Int)).toNat = 0 from rfl] at hx219_0)
             (try rw [Addr.add_zero'] at hx219_0)
             try replace hx219_0 := (HB.out.cell (World.block_lt_of_cell? w _ hx219_0)).trans hx219_0
             replace p219 := eq_true p219
             replace q219 := eq_true q219
             have p220 : 0 ≤ (1 : Int) := (by omega)
             have q220 : 1 < (l2.length : Int) := of_decide_eq_true (by first | (with_reducible assumption) | assumption)
             obtain ⟨ad220, e220, hx220_0⟩ := Kd.at_int HR2.out 1 p220 q220
             have hw220_0 := hx220_0
             (try rw [show ((1 : Int)).toNat = 1 from rfl] at hw220_0)
             (try rw [show 1 * 1 = 1 from rfl] at hw220_0)
             (try simp only [Nat.reduceMul, Nat.reduceEqDiff, Go.Addr.add, ↓reduceIte] at hw220_0)
             obtain rfl : ad214 = ad220 := (by injection e220)
             (try simp only [show (1 : Int).toNat = 1 from rfl, Nat.reduceMul, Nat.reduceEqDiff, Go.Addr.add, ↓reduceIte] at hx220_0)
             have qi220 : (1 < l2.length) = True := eq_true (by omega)
             (try rw [show ((1 : Int)).toNat = 1 from rfl] at hx220_0)
             try replace hx220_0 := (HB.out.cell (World.block_lt_of_cell? w _ hx220_0)).trans hx220_0
             replace p220 := eq_true p220
             replace q220 := eq_true q220
             have p221 : 0 ≤ (0 : Int) := (by omega)
             have q221 : 0 < (l2.length : Int) := of_decide_eq_true (by first | (with_reducible assumption) | assumption)
             obtain ⟨ad221, e221, hx221_0⟩ := Kd.at_int HR2.out 0 p221 q221
             have hw221_0 := hx221_0
             (try rw [show ((0 : Int)).toNat = 0 from rfl] at hw221_0)
             (try rw [show 0 * 1 = 0 from rfl] at hw221_0)
             (try rw [Addr.add_zero'] at hw221_0)
             obtain rfl : ad214 = ad221 := (by injection e221)
             have qi221 : (0 < l2.length) = True := eq_true (by omega)
             (try rw [show ((0 : Int)).toNat = 0 from rfl] at hx221_0)
             (try rw [Addr.add_zero'] at hx221_0)
             try replace hx221_0 := (HB.out.cell (World.block_lt_of_cell? w _ hx221_0)).trans hx221_0
             replace p221 := eq_true p221
             replace q221 := eq_true q221
             have p222 : 0 ≤ (1 : Int) := (by omega)
             have q222 : 1 < (l1.length : Int) := of_decide_eq_true (by first | (with_reducible assumption) | assumption)
             obtain ⟨ad222, e222, hx222_0⟩ := Kd.at_int HR1.out 1 p222 q222
             have hw222_0 := hx222_0
             (try rw [show ((1 : Int)).toNat = 1 from rfl] at hw222_0)
             (try rw [show 1 * 1 = 1 from rfl] at hw222_0)
             (try simp only [Nat.reduceMul, Nat.reduceEqDiff, Go.Addr.add, ↓reduceIte] at hw222_0)
             obtain rfl : ad212 = ad222 := (by injection e222)
             (try simp only [show (1 : Int).toNat = 1 from rfl, Nat.reduceMul, Nat.reduceEqDiff, Go.Addr.add, ↓reduceIte] at hx222_0)
             have qi222 : (1 < l1.length) = True := eq_true (by omega)
             (try rw [show ((1 : Int)).toNat = 1 from rfl] at hx222_0)
             try replace hx222_0 := (HB.out.cell (World.block_lt_of_cell? w _ hx222_0)).trans hx222_0
             replace p222 := eq_true p222
             replace q222 := eq_true q222
             refine start_ (n := 45) (S := fun w' => w'.cell? ad212 = some (.int .i64 (rd l1 0)) ∧ w'.cell? ⟨ad212.block, ad212.off + 1, none⟩ = some (.int .i64 (rd l1 1)) ∧ w'.cell? ad214 = some (.int .i64 (rd l2 0)) ∧ w'.cell? ⟨ad214.block, ad214.off + 1, none⟩ = some (.int .i64 (rd l2 1)) ∧ w'.cell? ad212 = some (.int .i64 (rd l1 0)) ∧ w'.cell? ad214 = some (.int .i64 (rd l2 0)) ∧ w'.cell? ad212 = some (.int .i64 (rd l1 0)) ∧ w'.cell? ⟨ad214.block, ad214.off + 1, none⟩ = some (.int .i64 (rd l2 1)) ∧ w'.cell? ad214 = some (.int .i64 (rd l2 0)) ∧ w'.cell? ⟨ad212.block, ad212.off + 1, none⟩ = some (.int .i64 (rd l1 1))) (ds := []) (Pt.bm 45 0) (by kernel_rfl) rfl rfl ⟨((HB.out.cell (World.block_lt_of_cell? w _ hw212_0)).trans hw212_0), ((HB.out.cell (World.block_lt_of_cell? w _ hw213_0)).trans hw213_0), ((HB.out.cell (World.block_lt_of_cell? w _ hw214_0)).trans hw214_0), ((HB.out.cell (World.block_lt_of_cell? w _ hw215_0)).trans hw215_0), ((HB.out.cell (World.block_lt_of_cell? w _ hw216_0)).trans hw216_0), ((HB.out.cell (World.block_lt_of_cell? w _ hw217_0)).trans hw217_0), ((HB.out.cell (World.block_lt_of_cell? w _ hw219_0)).trans hw219_0), ((HB.out.cell (World.block_lt_of_cell? w _ hw220_0)).trans hw220_0), ((HB.out.cell (World.block_lt_of_cell? w _ hw221_0)).trans hw221_0), ((HB.out.cell (World.block_lt_of_cell? w _ hw222_0)).trans hw222_0)⟩ (fun hHeld => ?_); refine with_tabW spec_l1Between.tab11 spec_l1Between.bits11 (fun HT_ HW_ => ?_)
             generalize w.drew = w60 at HB hx212_0 hx213_0 hx214_0 hx215_0 hx216_0 hx217_0 hx219_0 hx220_0 hx221_0 hx222_0 hHeld ⊢
             refine Pt.pu 0 (some 107) (Pt.bm 45 1) (any_of HT_.out (by kernel_rfl)) ?_
             refine Pt.pu 1 (some 108) (Pt.bm 45 3) (any_of HT_.out (by kernel_rfl)) ?_
             refine Pt.pu 3 (some 110) (Pt.bm 45 11) (any_of HT_.out (by kernel_rfl)) ?_
             refine Pt.pu 4 (some 111) (Pt.bm 45 27) (any_of HT_.out (by kernel_rfl)) ?_
             refine Pt.pu 26 (some 133) (Pt.bm 45 67108891) (any_of HT_.out (by kernel_rfl)) ?_
             refine Pt.pu 27 (some 134) (Pt.bm 45 201326619) (any_of HT_.out (by kernel_rfl)) ?_
             refine Pt.pu 29 (some 136) (Pt.bm 45 738197531) (any_of HT_.out (by kernel_rfl)) ?_
             refine Pt.pu 30 (some 137) (Pt.bm 45 1811939355) (any_of HT_.out (by kernel_rfl)) ?_
             refine Pt.tk 2 (some 109) (Pt.bm 45 1811939359) rfl rfl (take_ofW HT_.out HW_.out (by kernel_rfl)) hHeld (Or.inl ⟨by rfl, by rintro w' ⟨s0, s1, s2, s3, s4, s5, s6, s7, s8, s9⟩; go_simp; with_reducible rfl⟩) ?_
             refine Pt.tk 5 (some 112) (Pt.bm 45 1811939391) rfl rfl (take_ofW HT_.out HW_.out (by kernel_rfl)) hHeld (Or.inl ⟨by rfl, by rintro w' ⟨s0, s1, s2, s3, s4, s5, s6, s7, s8, s9⟩; go_simp; with_reducible rfl⟩) ?_
             refine Pt.pu 6 (some 113) (Pt.bm 45 1811939455) (any_of HT_.out (by kernel_rfl)) ?_
             refine Pt.pu 7 (some 114) (Pt.bm 45 1811939583) (any_of HT_.out (by kernel_rfl)) ?_
             refine Pt.pu 8 (some 115) (Pt.bm 45 1811939839) (any_of HT_.out (by kernel_rfl)) ?_
             refine Pt.pu 9 (some 116) (Pt.bm 45 1811940351) (any_of HT_.out (by kernel_rfl)) ?_
             refine Pt.pu 11 (some 118) (Pt.bm 45 1811942399) (any_of HT_.out (by kernel_rfl)) ?_
             refine Pt.pu 12 (some 119) (Pt.bm 45 1811946495) (any_of HT_.out (by kernel_rfl)) ?_
             refine Pt.tk 10 (some 117) (Pt.bm 45 1811947519) rfl rfl (take_ofW HT_.out HW_.out (by kernel_rfl)) hHeld (Or.inl ⟨by rfl, by rintro w' ⟨s0, s1, s2, s3, s4, s5, s6, s7, s8, s9⟩; go_simp; with_reducible rfl⟩) ?_
             refine Pt.tk 13 (some 120) (Pt.bm 45 1811955711) rfl rfl (take_ofW HT_.out HW_.out (by kernel_rfl)) hHeld (Or.inl ⟨by rfl, by rintro w' ⟨s0, s1, s2, s3, s4, s5, s6, s7, s8, s9⟩; go_simp; with_reducible rfl⟩) ?_
             refine Pt.pu 14 (some 121) (Pt.bm 45 1811972095) (any_of HT_.out (by kernel_rfl)) ?_
             refine Pt.pu 15 (some 122) (Pt.bm 45 1812004863) (any_of HT_.out (by kernel_rfl)) ?_
             refine Pt.pu 16 (some 123) (Pt.bm 45 1812070399) (any_of HT_.out (by kernel_rfl)) ?_
             refine Pt.pu 17 (some 124) (Pt.bm 45 1812201471) (any_of HT_.out (by kernel_rfl)) ?_
             refine Pt.pu 18 (some 125) (Pt.bm 45 1812463615) (any_of HT_.out (by kernel_rfl)) ?_
             refine Pt.pu 20 (some 127) (Pt.bm 45 1813512191) (any_of HT_.out (by kernel_rfl)) ?_
             refine Pt.pu 21 (some 128) (Pt.bm 45 1815609343) (any_of HT_.out (by kernel_rfl)) ?_
             refine Pt.tk 19 (some 126) (Pt.bm 45 1816133631) rfl rfl (take_ofW HT_.out HW_.out (by kernel_rfl)) hHeld (Or.inl ⟨by rfl, by rintro w' ⟨s0, s1, s2, s3, s4, s5, s6, s7, s8, s9⟩; go_simp; with_reducible rfl⟩) ?_
             refine Pt.tk 22 (some 129) (Pt.bm 45 1820327935) rfl rfl (take_ofW HT_.out HW_.out (by kernel_rfl)) hHeld (Or.inl ⟨by rfl, by rintro w' ⟨s0, s1, s2, s3, s4, s5, s6, s7, s8, s9⟩; go_simp; with_reducible rfl⟩) ?_
             refine Pt.pu 23 (some 130) (Pt.bm 45 1828716543) (any_of HT_.out (by kernel_rfl)) ?_
             refine Pt.pu 24 (some 131) (Pt.bm 45 1845493759) (any_of HT_.out (by kernel_rfl)) ?_
             refine Pt.tk 28 (some 135) (Pt.bm 45 2113929215) rfl rfl (take_ofW HT_.out HW_.out (by kernel_rfl)) hHeld (Or.inl ⟨by rfl, by rintro w' ⟨s0, s1, s2, s3, s4, s5, s6, s7, s8, s9⟩; go_simp; with_reducible rfl⟩) ?_
             refine Pt.tk 31 (some 138) (Pt.bm 45 4261412863) rfl rfl (take_ofW HT_.out HW_.out (by kernel_rfl)) hHeld (Or.inl ⟨by rfl, by rintro w' ⟨s0, s1, s2, s3, s4, s5, s6, s7, s8, s9⟩; go_simp; with_reducible rfl⟩) ?_
             refine Pt.pu 32 (some 139) (Pt.bm 45 8556380159) (any_of HT_.out (by kernel_rfl)) ?_
             refine one_ (i := 25) (N := some 132) (Pt.bm 45 8589934591) rfl rfl (one_of HT_.out (by kernel_rfl)) (by decide) (fun K hK => ?_)
             refine goes_ Try.func113 (by kernel_rfl) rfl #[.bool ((rd l1 0) == (rd l2 0))] (by rfl) rfl rfl (by (try simp only [List.map_toArray, List.map_cons, List.map_nil]); first | done | rfl | (simp only [List.length_drop, List.length_take]; rfl)) ?_
             with_reducible refine (spec_l1Truth.calls ((rd l1 0) == (rd l2 0)) t218 _ A57.out).mono ?_
             rintro e w' ⟨rfl, ⟨nd, rfl⟩⟩
             refine ⟨_, rfl, ?_⟩
             refine hK.out _ _ ⟨((HB.out.cell (World.block_lt_of_cell? w _ hw212_0)).trans hw212_0), ((HB.out.cell (World.block_lt_of_cell? w _ hw213_0)).trans hw213_0), ((HB.out.cell (World.block_lt_of_cell? w _ hw214_0)).trans hw214_0), ((HB.out.cell (World.block_lt_of_cell? w _ hw215_0)).trans hw215_0), ((HB.out.cell (World.block_lt_of_cell? w _ hw216_0)).trans hw216_0), ((HB.out.cell (World.block_lt_of_cell? w _ hw217_0)).trans hw217_0), ((HB.out.cell (World.block_lt_of_cell? w _ hw219_0)).trans hw219_0), ((HB.out.cell (World.block_lt_of_cell? w _ hw220_0)).trans hw220_0), ((HB.out.cell (World.block_lt_of_cell? w _ hw221_0)).trans hw221_0), ((HB.out.cell (World.block_lt_of_cell? w _ hw222_0)).trans hw222_0)⟩ (fun hHeld => ?_)
             clear hK K
             refine norm_ (a' := ?_) ?_ ?_
             rotate_left
             ·show Act.put _ (some 132) _ = _
              simp only [Act.put, List.setIfInBounds_toArray, List.set_cons_zero, List.set_cons_succ, i64_w, i32_w]
              rfl
             refine Pt.pu 33 (some 140) (Pt.bm 45 17179869183) (any_of HT_.out (by kernel_rfl)) ?_
             refine Pt.pu 34 (some 141) (Pt.bm 45 34359738367) (any_of HT_.out (by kernel_rfl)) ?_
             refine Pt.pu 35 (some 142) (Pt.bm 45 68719476735) (any_of HT_.out (by kernel_rfl)) ?_
             refine Pt.pu 37 (some 144) (Pt.bm 45 206158430207) (any_of HT_.out (by kernel_rfl)) ?_
             refine Pt.pu 38 (some 145) (Pt.bm 45 481036337151) (any_of HT_.out (by kernel_rfl)) ?_
             refine Pt.tk 36 (some 143) (Pt.bm 45 549755813887) rfl rfl (take_ofW HT_.out HW_.out (by kernel_rfl)) hHeld (Or.inl ⟨by rfl, by rintro w' ⟨s0, s1, s2, s3, s4, s5, s6, s7, s8, s9⟩; go_simp; with_reducible rfl⟩) ?_
             refine Pt.tk 39 (some 146) (Pt.bm 45 1099511627775) rfl rfl (take_ofW HT_.out HW_.out (by kernel_rfl)) hHeld (Or.inl ⟨by rfl, by rintro w' ⟨s0, s1, s2, s3, s4, s5, s6, s7, s8, s9⟩; go_simp; with_reducible rfl⟩) ?_
             refine Pt.pu 40 (some 147) (Pt.bm 45 2199023255551) (any_of HT_.out (by kernel_rfl)) ?_
             refine Pt.pu 41 (some 148) (Pt.bm 45 4398046511103) (any_of HT_.out (by kernel_rfl)) ?_
             refine one_ (i := 42) (N := some 149) (Pt.bm 45 8796093022207) rfl rfl (one_of HT_.out (by kernel_rfl)) (by decide) (fun K hK => ?_)
             refine goes_ Try.func113 (by kernel_rfl) rfl #[.bool (decide ((rd l2 0) ≤ (rd l1 1)))] (by rfl) rfl rfl (by (try simp only [List.map_toArray, List.map_cons, List.map_nil]); first | done | rfl | (simp only [List.length_drop, List.length_take]; rfl)) ?_
             with_reducible refine (spec_l1Truth.calls (decide ((rd l2 0) ≤ (rd l1 1))) t223 _ A59.out).mono ?_
             rintro e w' ⟨rfl, ⟨nd, rfl⟩⟩
             refine ⟨_, rfl, ?_⟩
             refine hK.out _ _ ⟨((HB.out.cell (World.block_lt_of_cell? w _ hw212_0)).trans hw212_0), ((HB.out.cell (World.block_lt_of_cell? w _ hw213_0)).trans hw213_0), ((HB.out.cell (World.block_lt_of_cell? w _ hw214_0)).trans hw214_0), ((HB.out.cell (World.block_lt_of_cell? w _ hw215_0)).trans hw215_0), ((HB.out.cell (World.block_lt_of_cell? w _ hw216_0)).trans hw216_0), ((HB.out.cell (World.block_lt_of_cell? w _ hw217_0)).trans hw217_0), ((HB.out.cell (World.block_lt_of_cell? w _ hw219_0)).trans hw219_0), ((HB.out.cell (World.block_lt_of_cell? w _ hw220_0)).trans hw220_0), ((HB.out.cell (World.block_lt_of_cell? w _ hw221_0)).trans hw221_0), ((HB.out.cell (World.block_lt_of_cell? w _ hw222_0)).trans hw222_0)⟩ (fun hHeld => ?_)
             clear hK K
             refine norm_ (a' := ?_) ?_ ?_
             rotate_left
             ·show Act.put _ (some 149) _ = _
              simp only [Act.put, List.setIfInBounds_toArray, List.set_cons_zero, List.set_cons_succ, i64_w, i32_w]
              rfl
             refine one_ (i := 43) (N := some 150) (Pt.bm 45 17592186044415) rfl rfl (one_of HT_.out (by kernel_rfl)) (by decide) (fun K hK => ?_)
             refine Kd.R_lit_step (Kd.int .i64) _ 3 ?hg (N := 150) ?hd (xs := ([t218, t223] : List Int)) (inner := [.int .i64 t218, .int .i64 t223]) (ok := fun _ => True) (okp := fun _ => True) ?hr ?hp (fun _ hk => hk) trivial (Below.refl _ _) (Nat.le_refl _) (by simp) ?_; (case hd => rfl); (case hg => rfl); (case hr => first | (go_simp; done) | (go_simp; rfl)); (case hp => exact (Reps.one (show Kd.M (Kd.int .i64) _ _ _ t218 [.int .i64 t218] from rfl) (Reps.one (show Kd.M (Kd.int .i64) _ _ _ t223 [.int .i64 t223] from rfl) (Reps.none _ _))))
             intro v225 w61 ho62 hb hg_ hnew_
             clear hg_ hnew_
             (first | rw [← Ny224.out] at ho62 | (simp only [Int.reduceToNat] at ho62; rw [← Ny224.out] at ho62))
             have n0_ := Aside0.mk (Kd.R_lower ho62 (below_size (by repeat (first | (with_reducible first | exact HB.out | apply bwA | apply bwN | apply bwD) | exact HB.out))))
             have n1_ := Aside0.mk (below_step (by repeat (first | (with_reducible first | exact HB.out | apply bwA | apply bwN | apply bwD) | exact HB.out)) hb)
             clear HB
             have HO226 := n0_
             have HB := n1_
             clear n0_ n1_
             clear hb ho62
             refine hK.out _ _ ⟨((HB.out.cell (World.block_lt_of_cell? w _ hw212_0)).trans hw212_0), ((HB.out.cell (World.block_lt_of_cell? w _ hw213_0)).trans hw213_0), ((HB.out.cell (World.block_lt_of_cell? w _ hw214_0)).trans hw214_0), ((HB.out.cell (World.block_lt_of_cell? w _ hw215_0)).trans hw215_0), ((HB.out.cell (World.block_lt_of_cell? w _ hw216_0)).trans hw216_0), ((HB.out.cell (World.block_lt_of_cell? w _ hw217_0)).trans hw217_0), ((HB.out.cell (World.block_lt_of_cell? w _ hw219_0)).trans hw219_0), ((HB.out.cell (World.block_lt_of_cell? w _ hw220_0)).trans hw220_0), ((HB.out.cell (World.block_lt_of_cell? w _ hw221_0)).trans hw221_0), ((HB.out.cell (World.block_lt_of_cell? w _ hw222_0)).trans hw222_0)⟩ (fun hHeld => ?_)
             clear hK K
             refine norm_ (a' := ?_) ?_ ?_
             rotate_left
             ·show Act.put _ (some 150) _ = _
              simp only [Act.put, List.setIfInBounds_toArray, List.set_cons_zero, List.set_cons_succ, i64_w, i32_w]
              rfl
             refine Pt.pu 44 (some 6) (Pt.bm 45 35184372088831) (any_of HT_.out (by kernel_rfl)) ?_
             refine done_ (done_of HT_.out (by kernel_rfl)) ?_
             try go_wp2
             go_ret
             exact ⟨_, by first | rfl | (simp [errW_none, errW_some] <;> rfl) | (simp [*, errW_none, errW_some] <;> rfl), by (with_reducible repeat (first | apply Kd.R_alloc | apply Kd.R_drewN | apply Kd.R_drew)); exact HO226.out, by repeat (first | (with_reducible first | exact HB.out | apply bwA | apply bwN | apply bwD) | exact HB.out)⟩
            ·rw [if_neg c58] at H
             have c58b0 : decide ((rd l1 0) ≤ (rd l2 1)) = false := decide_eq_false c58
             clear c58
             replace H := Option.bind_eq_some_iff.mp H
             obtain ⟨t227, A630, H⟩ := H
             replace H : (some (([t218, t227] : List Int))) = some r := H
             have A63 := Aside0.mk A630
             clear A630
             obtain ⟨y228, hy228⟩ : ∃ y_ : List Int, y_ = (([t218, t227] : List Int)) := ⟨_, rfl⟩
             replace H : (some y228) = some r := by first | (rw [hy228]; with_reducible exact H) | (have H2_ := (Option.bind_some _ _).symm.trans H; rw [hy228]; with_reducible exact H2_) | (have H2_ := (Option.bind_some _ _).symm.trans H; with_reducible exact H2_) | with_reducible exact H | (rw [hy228]; exact H) | exact H
             have Ny228 := Aside0.mk hy228
             clear hy228
             obtain rfl := Option.some.inj H
             go_enter Try.func74, Try.ntmps74
             try go_wp2
             have n0_ := Aside0.mk (below_drew1 HB.out)
             clear HB
             have HB := n0_
             clear n0_
             have p212 : 0 ≤ (0 : Int) := (by omega)
             have q212 : 0 < (l1.length : Int) := of_decide_eq_true (by first | (with_reducible assumption) | assumption)
             obtain ⟨ad212, e212, hx212_0⟩ := Kd.at_int HR1.out 0 p212 q212
             have hw212_0 := hx212_0
             (try rw [show ((0 : Int)).toNat = 0 from rfl] at hw212_0)
             (try rw [show 0 * 1 = 0 from rfl] at hw212_0)
             (try rw [Addr.add_zero'] at hw212_0)
             cases e212
             have qi212 : (0 < l1.length) = True := eq_true (by omega)
             (try rw [show ((0 : Int)).toNat = 0 from rfl] at hx212_0)
             (try rw [Addr.add_zero'] at hx212_0)
             try replace hx212_0 := (HB.out.cell (World.block_lt_of_cell? w _ hx212_0)).trans hx212_0
             replace p212 := eq_true p212
             replace q212 := eq_true q212
             have p213 : 0 ≤ (1 : Int) := (by omega)
             have q213 : 1 < (l1.length : Int) := of_decide_eq_true (by first | (with_reducible assumption) | assumption)
             obtain ⟨ad213, e213, hx213_0⟩ := Kd.at_int HR1.out 1 p213 q213
             have hw213_0 := hx213_0
             (try rw [show ((1 : Int)).toNat = 1 from rfl] at hw213_0)
             (try rw [show 1 * 1 = 1 from rfl] at hw213_0)
             (try simp only [Nat.reduceMul, Nat.reduceEqDiff, Go.Addr.add, ↓reduceIte] at hw213_0)
             obtain rfl : ad212 = ad213 := (by injection e213)
             (try simp only [show (1 : Int).toNat = 1 from rfl, Nat.reduceMul, Nat.reduceEqDiff, Go.Addr.add, ↓reduceIte] at hx213_0)
             have qi213 : (1 < l1.length) = True := eq_true (by omega)
             (try rw [show ((1 : Int)).toNat = 1 from rfl] at hx213_0)
             try replace hx213_0 := (HB.out.cell (World.block_lt_of_cell? w _ hx213_0)).trans hx213_0
             replace p213 := eq_true p213
             replace q213 := eq_true q213
             have p214 : 0 ≤ (0 : Int) := (by omega)
             have q214 : 0 < (l2.length : Int) := of_decide_eq_true (by first | (with_reducible assumption) | assumption)
             obtain ⟨ad214, e214, hx214_0⟩ := Kd.at_int HR2.out 0 p214 q214
             have hw214_0 := hx214_0
             (try rw [show ((0 : Int)).toNat = 0 from rfl] at hw214_0)
             (try rw [show 0 * 1 = 0 from rfl] at hw214_0)
             (try rw [Addr.add_zero'] at hw214_0)
             cases e214
             have qi214 : (0 < l2.length) = True := eq_true (by omega)
             (try rw [show ((0 : Int)).toNat = 0 from rfl] at hx214_0)
             (try rw [Addr.add_zero'] at hx214_0)
             try replace hx214_0 := (HB.out.cell (World.block_lt_of_cell? w _ hx214_0)).trans hx214_0
             replace p214 := eq_true p214
             replace q214 := eq_true q214
             have p215 : 0 ≤ (1 : Int) := (by omega)
             have q215 : 1 < (l2.length : Int) := of_decide_eq_true (by first | (with_reducible assumption) | assumption)
             obtain ⟨ad215, e215, hx215_0⟩ := Kd.at_int HR2.out 1 p215 q215
             have hw215_0 := hx215_0
             (try rw [show ((1 : Int)).toNat = 1 from rfl] at hw215_0)
             (try rw [show 1 * 1 = 1 from rfl] at hw215_0)
             (try simp only [Nat.reduceMul, Nat.reduceEqDiff, Go.Addr.add, ↓reduceIte] at hw215_0)
             obtain rfl : ad214 = ad215 := (by injection e215)
             (try simp only [show (1 : Int).toNat = 1 from rfl, Nat.reduceMul, Nat.reduceEqDiff, Go.Addr.add, ↓reduceIte] at hx215_0)
             have qi215 : (1 < l2.length) = True := eq_true (by omega)
             (try rw [show ((1 : Int)).toNat = 1 from rfl] at hx215_0)
             try replace hx215_0 := (HB.out.cell (World.block_lt_of_cell? w _ hx215_0)).trans hx215_0
             replace p215 := eq_true p215
             replace q215 := eq_true q215
             have p216 : 0 ≤ (0 : Int) := (by omega)
             have q216 : 0 < (l1.length : Int) := of_decide_eq_true (by first | (with_reducible assumption) | assumption)
             obtain ⟨ad216, e216, hx216_0⟩ := Kd.at_int HR1.out 0 p216 q216
             have hw216_0 := hx216_0
             (try rw [show ((0 : Int)).toNat = 0 from rfl] at hw216_0)
             (try rw [show 0 * 1 = 0 from rfl] at hw216_0)
             (try rw [Addr.add_zero'] at hw216_0)
             obtain rfl : ad212 = ad216 := (by injection e216)
             have qi216 : (0 < l1.length) = True := eq_true (by omega)
             (try rw [show ((0 : Int)).toNat = 0 from rfl] at hx216_0)
             (try rw [Addr.add_zero'] at hx216_0)
             try replace hx216_0 := (HB.out.cell (World.block_lt_of_cell? w _ hx216_0)).trans hx216_0
             replace p216 := eq_true p216
             replace q216 := eq_true q216
             have p217 : 0 ≤ (0 : Int) := (by omega)
             have q217 : 0 < (l2.length : Int) := of_decide_eq_true (by first | (with_reducible assumption) | assumption)
             obtain ⟨ad217, e217, hx217_0⟩ := Kd.at_int HR2.out 0 p217 q217
             have hw217_0 := hx217_0
             (try rw [show ((0 : Int)).toNat = 0 from rfl] at hw217_0)
             (try rw [show 0 * 1 = 0 from rfl] at hw217_0)
             (try rw [Addr.add_zero'] at hw217_0)
             obtain rfl : ad214 = ad217 := (by injection e217)
             have qi217 : (0 < l2.length) = True := eq_true (by omega)
             (try rw [show ((0 : Int)).toNat = 0 from rfl] at hx217_0)
             (try rw [Addr.add_zero'] at hx217_0)
             try replace hx217_0 := (HB.out.cell (World.block_lt_of_cell? w _ hx217_0)).trans hx217_0
             replace p217 := eq_true p217
             replace q217 := eq_true q217
             have p219 : 0 ≤ (0 : Int) := (by omega)
             have q219 : 0 < (l1.length : Int) := of_decide_eq_true (by first | (with_reducible assumption) | assumption)
             obtain ⟨ad219, e219, hx219_0⟩ := Kd.at_int HR1.out 0 p219 q219
             have hw219_0 := hx219_0
             (try rw [show ((0 : Int)).toNat = 0 from rfl] at hw219_0)
             (try rw [show 0 * 1 = 0 from rfl] at hw219_0)
             (try rw [Addr.add_zero'] at hw219_0)
             obtain rfl : ad212 = ad219 := (by injection e219)
             have qi219 : (0 < l1.length) = True := eq_true (by omega)
             (try rw [show ((0 : Int)).toNat = 0 from rfl] at hx219_0)
             (try rw [Addr.add_zero'] at hx219_0)
             try replace hx219_0 := (HB.out.cell (World.block_lt_of_cell? w _ hx219_0)).trans hx219_0
             replace p219 := eq_true p219
             replace q219 := eq_true q219
             have p220 : 0 ≤ (1 : Int) := (by omega)
             have q220 : 1 < (l2.length : Int) := of_decide_eq_true (by first | (with_reducible assumption) | assumption)
             obtain ⟨ad220, e220, hx220_0⟩ := Kd.at_int HR2.out 1 p220 q220
             have hw220_0 := hx220_0
             (try rw [show ((1 : Int)).toNat = 1 from rfl] at hw220_0)
             (try rw [show 1 * 1 = 1 from rfl] at hw220_0)
             (try simp only [Nat.reduceMul, Nat.reduceEqDiff, Go.Addr.add, ↓reduceIte] at hw220_0)
             obtain rfl : ad214 = ad220 := (by injection e220)
             (try simp only [show (1 : Int).toNat = 1 from rfl, Nat.reduceMul, Nat.reduceEqDiff, Go.Addr.add, ↓reduceIte] at hx220_0)
             have qi220 : (1 < l2.length) = True := eq_true (by omega)
             (try rw [show ((1 : Int)).toNat = 1 from rfl] at hx220_0)
             try replace hx220_0 := (HB.out.cell (World.block_lt_of_cell? w _ hx220_0)).trans hx220_0
             replace p220 := eq_true p220
             replace q220 := eq_true q220
             refine start_ (n := 45) (S := fun w' => w'.cell? ad212 = some (.int .i64 (rd l1 0)) ∧ w'.cell? ⟨ad212.block, ad212.off + 1, none⟩ = some (.int .i64 (rd l1 1)) ∧ w'.cell? ad214 = some (.int .i64 (rd l2 0)) ∧ w'.cell? ⟨ad214.block, ad214.off + 1, none⟩ = some (.int .i64 (rd l2 1)) ∧ w'.cell? ad212 = some (.int .i64 (rd l1 0)) ∧ w'.cell? ad214 = some (.int .i64 (rd l2 0)) ∧ w'.cell? ad212 = some (.int .i64 (rd l1 0)) ∧ w'.cell? ⟨ad214.block, ad214.off + 1, none⟩ = some (.int .i64 (rd l2 1))) (ds := []) (Pt.bm 45 0) (by kernel_rfl) rfl rfl ⟨((HB.out.cell (World.block_lt_of_cell? w _ hw212_0)).trans hw212_0), ((HB.out.cell (World.block_lt_of_cell? w _ hw213_0)).trans hw213_0), ((HB.out.cell (World.block_lt_of_cell? w _ hw214_0)).trans hw214_0), ((HB.out.cell (World.block_lt_of_cell? w _ hw215_0)).trans hw215_0), ((HB.out.cell (World.block_lt_of_cell? w _ hw216_0)).trans hw216_0), ((HB.out.cell (World.block_lt_of_cell? w _ hw217_0)).trans hw217_0), ((HB.out.cell (World.block_lt_of_cell? w _ hw219_0)).trans hw219_0), ((HB.out.cell (World.block_lt_of_cell? w _ hw220_0)).trans hw220_0)⟩ (fun hHeld => ?_); refine with_tabW spec_l1Between.tab11 spec_l1Between.bits11 (fun HT_ HW_ => ?_)
             generalize w.drew = w64 at HB hx212_0 hx213_0 hx214_0 hx215_0 hx216_0 hx217_0 hx219_0 hx220_0 hHeld ⊢
             refine Pt.pu 0 (some 107) (Pt.bm 45 1) (any_of HT_.out (by kernel_rfl)) ?_
             refine Pt.pu 1 (some 108) (Pt.bm 45 3) (any_of HT_.out (by kernel_rfl)) ?_
             refine Pt.pu 3 (some 110) (Pt.bm 45 11) (any_of HT_.out (by kernel_rfl)) ?_
             refine Pt.pu 4 (some 111) (Pt.bm 45 27) (any_of HT_.out (by kernel_rfl)) ?_
             refine Pt.pu 26 (some 133) (Pt.bm 45 67108891) (any_of HT_.out (by kernel_rfl)) ?_
             refine Pt.pu 27 (some 134) (Pt.bm 45 201326619) (any_of HT_.out (by kernel_rfl)) ?_
             refine Pt.pu 29 (some 136) (Pt.bm 45 738197531) (any_of HT_.out (by kernel_rfl)) ?_
             refine Pt.pu 30 (some 137) (Pt.bm 45 1811939355) (any_of HT_.out (by kernel_rfl)) ?_
             refine Pt.tk 2 (some 109) (Pt.bm 45 1811939359) rfl rfl (take_ofW HT_.out HW_.out (by kernel_rfl)) hHeld (Or.inl ⟨by rfl, by rintro w' ⟨s0, s1, s2, s3, s4, s5, s6, s7⟩; go_simp; with_reducible rfl⟩) ?_
             refine Pt.tk 5 (some 112) (Pt.bm 45 1811939391) rfl rfl (take_ofW HT_.out HW_.out (by kernel_rfl)) hHeld (Or.inl ⟨by rfl, by rintro w' ⟨s0, s1, s2, s3, s4, s5, s6, s7⟩; go_simp; with_reducible rfl⟩) ?_
             refine Pt.pu 6 (some 113) (Pt.bm 45 1811939455) (any_of HT_.out (by kernel_rfl)) ?_
             refine Pt.pu 7 (some 114) (Pt.bm 45 1811939583) (any_of HT_.out (by kernel_rfl)) ?_
             refine Pt.pu 8 (some 115) (Pt.bm 45 1811939839) (any_of HT_.out (by kernel_rfl)) ?_
             refine Pt.pu 9 (some 116) (Pt.bm 45 1811940351) (any_of HT_.out (by kernel_rfl)) ?_
             refine Pt.pu 11 (some 118) (Pt.bm 45 1811942399) (any_of HT_.out (by kernel_rfl)) ?_
             refine Pt.pu 12 (some 119) (Pt.bm 45 1811946495) (any_of HT_.out (by kernel_rfl)) ?_
             refine Pt.tk 10 (some 117) (Pt.bm 45 1811947519) rfl rfl (take_ofW HT_.out HW_.out (by kernel_rfl)) hHeld (Or.inl ⟨by rfl, by rintro w' ⟨s0, s1, s2, s3, s4, s5, s6, s7⟩; go_simp; with_reducible rfl⟩) ?_
             refine Pt.tk 13 (some 120) (Pt.bm 45 1811955711) rfl rfl (take_ofW HT_.out HW_.out (by kernel_rfl)) hHeld (Or.inl ⟨by rfl, by rintro w' ⟨s0, s1, s2, s3, s4, s5, s6, s7⟩; go_simp; with_reducible rfl⟩) ?_
             refine Pt.pu 14 (some 121) (Pt.bm 45 1811972095) (any_of HT_.out (by kernel_rfl)) ?_
             refine Pt.pu 15 (some 122) (Pt.bm 45 1812004863) (any_of HT_.out (by kernel_rfl)) ?_
             refine Pt.pu 16 (some 123) (Pt.bm 45 1812070399) (any_of HT_.out (by kernel_rfl)) ?_
             refine Pt.pu 17 (some 124) (Pt.bm 45 1812201471) (any_of HT_.out (by kernel_rfl)) ?_
             refine Pt.pu 18 (some 125) (Pt.bm 45 1812463615) (any_of HT_.out (by kernel_rfl)) ?_
             refine Pt.pu 20 (some 127) (Pt.bm 45 1813512191) (any_of HT_.out (by kernel_rfl)) ?_
             refine Pt.pu 21 (some 128) (Pt.bm 45 1815609343) (any_of HT_.out (by kernel_rfl)) ?_
             refine Pt.tk 19 (some 126) (Pt.bm 45 1816133631) rfl rfl (take_ofW HT_.out HW_.out (by kernel_rfl)) hHeld (Or.inl ⟨by rfl, by rintro w' ⟨s0, s1, s2, s3, s4, s5, s6, s7⟩; go_simp; with_reducible rfl⟩) ?_
             refine Pt.tk 22 (some 129) (Pt.bm 45 1820327935) rfl rfl (take_ofW HT_.out HW_.out (by kernel_rfl)) hHeld (Or.inl ⟨by rfl, by rintro w' ⟨s0, s1, s2, s3, s4, s5, s6, s7⟩; go_simp; with_reducible rfl⟩) ?_
             refine Pt.pu 23 (some 130) (Pt.bm 45 1828716543) (any_of HT_.out (by kernel_rfl)) ?_
             refine Pt.pu 24 (some 131) (Pt.bm 45 1845493759) (any_of HT_.out (by kernel_rfl)) ?_
             refine Pt.tk 28 (some 135) (Pt.bm 45 2113929215) rfl rfl (take_ofW HT_.out HW_.out (by kernel_rfl)) hHeld (Or.inl ⟨by rfl, by rintro w' ⟨s0, s1, s2, s3, s4, s5, s6, s7⟩; go_simp; with_reducible rfl⟩) ?_
             refine Pt.tk 31 (some 138) (Pt.bm 45 4261412863) rfl rfl (take_ofW HT_.out HW_.out (by kernel_rfl)) hHeld (Or.inl ⟨by rfl, by rintro w' ⟨s0, s1, s2, s3, s4, s5, s6, s7⟩; go_simp; with_reducible rfl⟩) ?_
             refine Pt.pu 32 (some 139) (Pt.bm 45 8556380159) (any_of HT_.out (by kernel_rfl)) ?_
             refine one_ (i := 25) (N := some 132) (Pt.bm 45 8589934591) rfl rfl (one_of HT_.out (by kernel_rfl)) (by decide) (fun K hK => ?_)
             refine goes_ Try.func113 (by kernel_rfl) rfl #[.bool ((rd l1 0) == (rd l2 0))] (by rfl) rfl rfl (by (try simp only [List.map_toArray, List.map_cons, List.map_nil]); first | done | rfl | (simp only [List.length_drop, List.length_take]; rfl)) ?_
             with_reducible refine (spec_l1Truth.calls ((rd l1 0) == (rd l2 0)) t218 _ A57.out).mono ?_
             rintro e w' ⟨rfl, ⟨nd, rfl⟩⟩
             refine ⟨_, rfl, ?_⟩
             refine hK.out _ _ ⟨((HB.out.cell (World.block_lt_of_cell? w _ hw212_0)).trans hw212_0), ((HB.out.cell (World.block_lt_of_cell? w _ hw213_0)).trans hw213_0), ((HB.out.cell (World.block_lt_of_cell? w _ hw214_0)).trans hw214_0), ((HB.out.cell (World.block_lt_of_cell? w _ hw215_0)).trans hw215_0), ((HB.out.cell (World.block_lt_of_cell? w _ hw216_0)).trans hw216_0), ((HB.out.cell (World.block_lt_of_cell? w _ hw217_0)).trans hw217_0), ((HB.out.cell (World.block_lt_of_cell? w _ hw219_0)).trans hw219_0), ((HB.out.cell (World.block_lt_of_cell? w _ hw220_0)).trans hw220_0)⟩ (fun hHeld => ?_)
             clear hK K
             refine norm_ (a' := ?_) ?_ ?_
             rotate_left
             ·show Act.put _ (some 132) _ = _
              simp only [Act.put, List.setIfInBounds_toArray, List.set_cons_zero, List.set_cons_succ, i64_w, i32_w]
              rfl
             refine Pt.pu 33 (some 140) (Pt.bm 45 17179869183) (any_of HT_.out (by kernel_rfl)) ?_
             refine Pt.pn 34 (some 141) (Pt.bm 45 34359738367) (any_of HT_.out (by kernel_rfl)) ?_
             refine Pt.pn 35 (some 142) (Pt.bm 45 68719476735) (any_of HT_.out (by kernel_rfl)) ?_
             refine Pt.pn 36 (some 143) (Pt.bm 45 137438953471) (any_of HT_.out (by kernel_rfl)) ?_
             refine Pt.pn 37 (some 144) (Pt.bm 45 274877906943) (any_of HT_.out (by kernel_rfl)) ?_
             refine Pt.pn 38 (some 145) (Pt.bm 45 549755813887) (any_of HT_.out (by kernel_rfl)) ?_
             refine Pt.pn 39 (some 146) (Pt.bm 45 1099511627775) (any_of HT_.out (by kernel_rfl)) ?_
             refine Pt.pn 40 (some 147) (Pt.bm 45 2199023255551) (any_of HT_.out (by kernel_rfl)) ?_
             refine Pt.pu 41 (some 148) (Pt.bm 45 4398046511103) (any_of HT_.out (by kernel_rfl)) ?_
             refine one_ (i := 42) (N := some 149) (Pt.bm 45 8796093022207) rfl rfl (one_of HT_.out (by kernel_rfl)) (by decide) (fun K hK => ?_)
             refine goes_ Try.func113 (by kernel_rfl) rfl #[.bool false] (by rfl) rfl rfl (by (try simp only [List.map_toArray, List.map_cons, List.map_nil]); first | done | rfl | (simp only [List.length_drop, List.length_take]; rfl)) ?_
             with_reducible refine (spec_l1Truth.calls false t227 _ A63.out).mono ?_
             rintro e w' ⟨rfl, ⟨nd, rfl⟩⟩
             refine ⟨_, rfl, ?_⟩
             refine hK.out _ _ ⟨((HB.out.cell (World.block_lt_of_cell? w _ hw212_0)).trans hw212_0), ((HB.out.cell (World.block_lt_of_cell? w _ hw213_0)).trans hw213_0), ((HB.out.cell (World.block_lt_of_cell? w _ hw214_0)).trans hw214_0), ((HB.out.cell (World.block_lt_of_cell? w _ hw215_0)).trans hw215_0), ((HB.out.cell (World.block_lt_of_cell? w _ hw216_0)).trans hw216_0), ((HB.out.cell (World.block_lt_of_cell? w _ hw217_0)).trans hw217_0), ((HB.out.cell (World.block_lt_of_cell? w _ hw219_0)).trans hw219_0), ((HB.out.cell (World.block_lt_of_cell? w _ hw220_0)).trans hw220_0)⟩ (fun hHeld => ?_)
             clear hK K
             refine norm_ (a' := ?_) ?_ ?_
             rotate_left
             ·show Act.put _ (some 149) _ = _
              simp only [Act.put, List.setIfInBounds_toArray, List.set_cons_zero, List.set_cons_succ, i64_w, i32_w]
              rfl
             refine one_ (i := 43) (N := some 150) (Pt.bm 45 17592186044415) rfl rfl (one_of HT_.out (by kernel_rfl)) (by decide) (fun K hK => ?_)
             refine Kd.R_lit_step (Kd.int .i64) _ 3 ?hg (N := 150) ?hd (xs := ([t218, t227] : List Int)) (inner := [.int .i64 t218, .int .i64 t227]) (ok := fun _ => True) (okp := fun _ => True) ?hr ?hp (fun _ hk => hk) trivial (Below.refl _ _) (Nat.le_refl _) (by simp) ?_; (case hd => rfl); (case hg => rfl); (case hr => first | (go_simp; done) | (go_simp; rfl)); (case hp => exact (Reps.one (show Kd.M (Kd.int .i64) _ _ _ t218 [.int .i64 t218] from rfl) (Reps.one (show Kd.M (Kd.int .i64) _ _ _ t227 [.int .i64 t227] from rfl) (Reps.none _ _))))
             intro v229 w65 ho66 hb hg_ hnew_
             clear hg_ hnew_
             (first | rw [← Ny228.out] at ho66 | (simp only [Int.reduceToNat] at ho66; rw [← Ny228.out] at ho66))
             have n0_ := Aside0.mk (Kd.R_lower ho66 (below_size (by repeat (first | (with_reducible first | exact HB.out | apply bwA | apply bwN | apply bwD) | exact HB.out))))
             have n1_ := Aside0.mk (below_step (by repeat (first | (with_reducible first | exact HB.out | apply bwA | apply bwN | apply bwD) | exact HB.out)) hb)
             clear HB
             have HO230 := n0_
             have HB := n1_
             clear n0_ n1_
             clear hb ho66
             refine hK.out _ _ ⟨((HB.out.cell (World.block_lt_of_cell? w _ hw212_0)).trans hw212_0), ((HB.out.cell (World.block_lt_of_cell? w _ hw213_0)).trans hw213_0), ((HB.out.cell (World.block_lt_of_cell? w _ hw214_0)).trans hw214_0), ((HB.out.cell (World.block_lt_of_cell? w _ hw215_0)).trans hw215_0), ((HB.out.cell (World.block_lt_of_cell? w _ hw216_0)).trans hw216_0), ((HB.out.cell (World.block_lt_of_cell? w _ hw217_0)).trans hw217_0), ((HB.out.cell (World.block_lt_of_cell? w _ hw219_0)).trans hw219_0), ((HB.out.cell (World.block_lt_of_cell? w _ hw220_0)).trans hw220_0)⟩ (fun hHeld => ?_)
             clear hK K
             refine norm_ (a' := ?_) ?_ ?_
             rotate_left
             ·show Act.put _ (some 150) _ = _
              simp only [Act.put, List.setIfInBounds_toArray, List.set_cons_zero, List.set_cons_succ, i64_w, i32_w]
              rfl
             refine Pt.pu 44 (some 6) (Pt.bm 45 35184372088831) (any_of HT_.out (by kernel_rfl)) ?_
             refine done_ (done_of HT_.out (by kernel_rfl)) ?_
             try go_wp2
             go_ret
             exact ⟨_, by first | rfl | (simp [errW_none, errW_some] <;> rfl) | (simp [*, errW_none, errW_some] <;> rfl), by (with_reducible repeat (first | apply Kd.R_alloc | apply Kd.R_drewN | apply Kd.R_drew)); exact HO230.out, by repeat (first | (with_reducible first | exact HB.out | apply bwA | apply bwN | apply bwD) | exact HB.out)⟩
           ·rw [if_neg c56] at H
            have c56b0 : ((rd l2 0) == (rd l2 1)) = false := beq_eq_false_iff_ne.mpr c56
            have c56b1 : ((rd l2 0) != (rd l2 1)) = true := bne_iff_ne.mpr c56
            replace H := Option.bind_eq_some_iff.mp H
            obtain ⟨t231, A670, H⟩ := H
            replace H : (if (rd l1 0) ≤ (rd l2 1) then ((spec_l1Truth.f (decide ((rd l2 0) ≤ (rd l1 1)))).bind fun t236 => (some (([t231, t236] : List Int)))) else ((spec_l1Truth.f false).bind fun t240 => (some (([t231, t240] : List Int))))) = some r := H
            have A67 := Aside0.mk A670
            clear A670
            by_cases c68 : (rd l1 0) ≤ (rd l2 1)
            ·rw [if_pos c68] at H
             have c68b0 : decide ((rd l1 0) ≤ (rd l2 1)) = true := decide_eq_true c68
             clear c68
             replace H := Option.bind_eq_some_iff.mp H
             obtain ⟨t236, A690, H⟩ := H
             replace H : (some (([t231, t236] : List Int))) = some r := H
             have A69 := Aside0.mk A690
             clear A690
             obtain ⟨y237, hy237⟩ : ∃ y_ : List Int, y_ = (([t231, t236] : List Int)) := ⟨_, rfl⟩
             replace H : (some y237) = some r := by first | (rw [hy237]; with_reducible exact H) | (have H2_ := (Option.bind_some _ _).symm.trans H; rw [hy237]; with_reducible exact H2_) | (have H2_ := (Option.bind_some _ _).symm.trans H; with_reducible exact H2_) | with_reducible exact H | (rw [hy237]; exact H) | exact H
             have Ny237 := Aside0.mk hy237
             clear hy237
             obtain rfl := Option.some.inj H
             go_enter Try.func74, Try.ntmps74
             try go_wp2
             have n0_ := Aside0.mk (below_drew1 HB.out)
             clear HB
             have HB := n0_
             clear n0_
             have p212 : 0 ≤ (0 : Int) := (by omega)
             have q212 : 0 < (l1.length : Int) := of_decide_eq_true (by first | (with_reducible assumption) | assumption)
             obtain ⟨ad212, e212, hx212_0⟩ := Kd.at_int HR1.out 0 p212 q212
             have hw212_0 := hx212_0
             (try rw [show ((0 : Int)).toNat = 0 from rfl] at hw212_0)
             (try rw [show 0 * 1 = 0 from rfl] at hw212_0)
             (try rw [Addr.add_zero'] at hw212_0)
             cases e212
             have qi212 : (0 < l1.length) = True := eq_true (by omega)
             (try rw [show ((0 : Int)).toNat = 0 from rfl] at hx212_0)
             (try rw [Addr.add_zero'] at hx212_0)
             try replace hx212_0 := (HB.out.cell (World.block_lt_of_cell? w _ hx212_0)).trans hx212_0
             replace p212 := eq_true p212
             replace q212 := eq_true q212
             have p213 : 0 ≤ (1 : Int) := (by omega)
             have q213 : 1 < (l1.length : Int) := of_decide_eq_true (by first | (with_reducible assumption) | assumption)
             obtain ⟨ad213, e213, hx213_0⟩ := Kd.at_int HR1.out 1 p213 q213
             have hw213_0 := hx213_0
             (try rw [show ((1 : Int)).toNat = 1 from rfl] at hw213_0)
             (try rw [show 1 * 1 = 1 from rfl] at hw213_0)
             (try simp only [Nat.reduceMul, Nat.reduceEqDiff, Go.Addr.add, ↓reduceIte] at hw213_0)
             obtain rfl : ad212 = ad213 := (by injection e213)
             (try simp only [show (1 : Int).toNat = 1 from rfl, Nat.reduceMul, Nat.reduceEqDiff, Go.Addr.add, ↓reduceIte] at hx213_0)
             have qi213 : (1 < l1.length) = True := eq_true (by omega)
             (try rw [show ((1 : Int)).toNat = 1 from rfl] at hx213_0)
             try replace hx213_0 := (HB.out.cell (World.block_lt_of_cell? w _ hx213_0)).trans hx213_0
             replace p213 := eq_true p213
             replace q213 := eq_true q213
             have p214 : 0 ≤ (0 : Int) := (by omega)
             have q214 : 0 < (l2.length : Int) := of_decide_eq_true (by first | (with_reducible assumption) | assumption)
             obtain ⟨ad214, e214, hx214_0⟩ := Kd.at_int HR2.out 0 p214 q214
             have hw214_0 := hx214_0
             (try rw [show ((0 : Int)).toNat = 0 from rfl] at hw214_0)
             (try rw [show 0 * 1 = 0 from rfl] at hw214_0)
             (try rw [Addr.add_zero'] at hw214_0)
             cases e214
             have qi214 : (0 < l2.length) = True := eq_true (by omega)
             (try rw [show ((0 : Int)).toNat = 0 from rfl] at hx214_0)
             (try rw [Addr.add_zero'] at hx214_0)
             try replace hx214_0 := (HB.out.cell (World.block_lt_of_cell? w _ hx214_0)).trans hx214_0
             replace p214 := eq_true p214
             replace q214 := eq_true q214
             have p215 : 0 ≤ (1 : Int) := (by omega)
             have q215 : 1 < (l2.length : Int) := of_decide_eq_true (by first | (with_reducible assumption) | assumption)
             obtain ⟨ad215, e215, hx215_0⟩ := Kd.at_int HR2.out 1 p215 q215
             have hw215_0 := hx215_0
             (try rw [show ((1 : Int)).toNat = 1 from rfl] at hw215_0)
             (try rw [show 1 * 1 = 1 from rfl] at hw215_0)
             (try simp only [Nat.reduceMul, Nat.reduceEqDiff, Go.Addr.add, ↓reduceIte] at hw215_0)
             obtain rfl : ad214 = ad215 := (by injection e215)
             (try simp only [show (1 : Int).toNat = 1 from rfl, Nat.reduceMul, Nat.reduceEqDiff, Go.Addr.add, ↓reduceIte] at hx215_0)
             have qi215 : (1 < l2.length) = True := eq_true (by omega)
             (try rw [show ((1 : Int)).toNat = 1 from rfl] at hx215_0)
             try replace hx215_0 := (HB.out.cell (World.block_lt_of_cell? w _ hx215_0)).trans hx215_0
             replace p215 := eq_true p215
             replace q215 := eq_true q215
             have p232 : 0 ≤ (0 : Int) := (by omega)
             have q232 : 0 < (l1.length : Int) := of_decide_eq_true (by first | (with_reducible assumption) | assumption)
             obtain ⟨ad232, e232, hx232_0⟩ := Kd.at_int HR1.out 0 p232 q232
             have hw232_0 := hx232_0
             (try rw [show ((0 : Int)).toNat = 0 from rfl] at hw232_0)
             (try rw [show 0 * 1 = 0 from rfl] at hw232_0)
             (try rw [Addr.add_zero'] at hw232_0)
             obtain rfl : ad212 = ad232 := (by injection e232)
             have qi232 : (0 < l1.length) = True := eq_true (by omega)
             (try rw [show ((0 : Int)).toNat = 0 from rfl] at hx232_0)
             (try rw [Addr.add_zero'] at hx232_0)
             try replace hx232_0 := (HB.out.cell (World.block_lt_of_cell? w _ hx232_0)).trans hx232_0
             replace p232 := eq_true p232
             replace q232 := eq_true q232
             have p233 : 0 ≤ (1 : Int) := (by omega)
             have q233 : 1 < (l2.length : Int) := of_decide_eq_true (by first | (with_reducible assumption) | assumption)
             obtain ⟨ad233, e233, hx233_0⟩ := Kd.at_int HR2.out 1 p233 q233
             have hw233_0 := hx233_0
             (try rw [show ((1 : Int)).toNat = 1 from rfl] at hw233_0)
             (try rw [show 1 * 1 = 1 from rfl] at hw233_0)
             (try simp only [Nat.reduceMul, Nat.reduceEqDiff, Go.Addr.add, ↓reduceIte] at hw233_0)
             obtain rfl : ad214 = ad233 := (by injection e233)
             (try simp only [show (1 : Int).toNat = 1 from rfl, Nat.reduceMul, Nat.reduceEqDiff, Go.Addr.add, ↓reduceIte] at hx233_0)
             have qi233 : (1 < l2.length) = True := eq_true (by omega)
             (try rw [show ((1 : Int)).toNat = 1 from rfl] at hx233_0)
             try replace hx233_0 := (HB.out.cell (World.block_lt_of_cell? w _ hx233_0)).trans hx233_0
             replace p233 := eq_true p233
             replace q233 := eq_true q233
             have p234 : 0 ≤ (0 : Int) := (by omega)
             have q234 : 0 < (l2.length : Int) := of_decide_eq_true (by first | (with_reducible assumption) | assumption)
             obtain ⟨ad234, e234, hx234_0⟩ := Kd.at_int HR2.out 0 p234 q234
             have hw234_0 := hx234_0
             (try rw [show ((0 : Int)).toNat = 0 from rfl] at hw234_0)
             (try rw [show 0 * 1 = 0 from rfl] at hw234_0)
             (try rw [Addr.add_zero'] at hw234_0)
             obtain rfl : ad214 = ad234 := (by injection e234)
             have qi234 : (0 < l2.length) = True := eq_true (by omega)
             (try rw [show ((0 : Int)).toNat = 0 from rfl] at hx234_0)
             (try rw [Addr.add_zero'] at hx234_0)
             try replace hx234_0 := (HB.out.cell (World.block_lt_of_cell? w _ hx234_0)).trans hx234_0
             replace p234 := eq_true p234
             replace q234 := eq_true q234
             have p235 : 0 ≤ (1 : Int) := (by omega)
             have q235 : 1 < (l1.length : Int) := of_decide_eq_true (by first | (with_reducible assumption) | assumption)
             obtain ⟨ad235, e235, hx235_0⟩ := Kd.at_int HR1.out 1 p235 q235
             have hw235_0 := hx235_0
             (try rw [show ((1 : Int)).toNat = 1 from rfl] at hw235_0)
             (try rw [show 1 * 1 = 1 from rfl] at hw235_0)
             (try simp only [Nat.reduceMul, Nat.reduceEqDiff, Go.Addr.add, ↓reduceIte] at hw235_0)
             obtain rfl : ad212 = ad235 := (by injection e235)
             (try simp only [show (1 : Int).toNat = 1 from rfl, Nat.reduceMul, Nat.reduceEqDiff, Go.Addr.add, ↓reduceIte] at hx235_0)
             have qi235 : (1 < l1.length) = True := eq_true (by omega)
             (try rw [show ((1 : Int)).toNat = 1 from rfl] at hx235_0)
             try replace hx235_0 := (HB.out.cell (World.block_lt_of_cell? w _ hx235_0)).trans hx235_0
             replace p235 := eq_true p235
             replace q235 := eq_true q235
             refine start_ (n := 45) (S := fun w' => w'.cell? ad212 = some (.int .i64 (rd l1 0)) ∧ w'.cell? ⟨ad212.block, ad212.off + 1, none⟩ = some (.int .i64 (rd l1 1)) ∧ w'.cell? ad214 = some (.int .i64 (rd l2 0)) ∧ w'.cell? ⟨ad214.block, ad214.off + 1, none⟩ = some (.int .i64 (rd l2 1)) ∧ w'.cell? ad212 = some (.int .i64 (rd l1 0)) ∧ w'.cell? ⟨ad214.block, ad214.off + 1, none⟩ = some (.int .i64 (rd l2 1)) ∧ w'.cell? ad214 = some (.int .i64 (rd l2 0)) ∧ w'.cell? ⟨ad212.block, ad212.off + 1, none⟩ = some (.int .i64 (rd l1 1))) (ds := []) (Pt.bm 45 0) (by kernel_rfl) rfl rfl ⟨((HB.out.cell (World.block_lt_of_cell? w _ hw212_0)).trans hw212_0), ((HB.out.cell (World.block_lt_of_cell? w _ hw213_0)).trans hw213_0), ((HB.out.cell (World.block_lt_of_cell? w _ hw214_0)).trans hw214_0), ((HB.out.cell (World.block_lt_of_cell? w _ hw215_0)).trans hw215_0), ((HB.out.cell (World.block_lt_of_cell? w _ hw232_0)).trans hw232_0), ((HB.out.cell (World.block_lt_of_cell? w _ hw233_0)).trans hw233_0), ((HB.out.cell (World.block_lt_of_cell? w _ hw234_0)).trans hw234_0), ((HB.out.cell (World.block_lt_of_cell? w _ hw235_0)).trans hw235_0)⟩ (fun hHeld => ?_); refine with_tabW spec_l1Between.tab11 spec_l1Between.bits11 (fun HT_ HW_ => ?_)
             generalize w.drew = w70 at HB hx212_0 hx213_0 hx214_0 hx215_0 hx232_0 hx233_0 hx234_0 hx235_0 hHeld ⊢
             refine Pt.pu 0 (some 107) (Pt.bm 45 1) (any_of HT_.out (by kernel_rfl)) ?_
             refine Pt.pu 1 (some 108) (Pt.bm 45 3) (any_of HT_.out (by kernel_rfl)) ?_
             refine Pt.pu 3 (some 110) (Pt.bm 45 11) (any_of HT_.out (by kernel_rfl)) ?_
             refine Pt.pu 4 (some 111) (Pt.bm 45 27) (any_of HT_.out (by kernel_rfl)) ?_
             refine Pt.pu 26 (some 133) (Pt.bm 45 67108891) (any_of HT_.out (by kernel_rfl)) ?_
             refine Pt.pu 27 (some 134) (Pt.bm 45 201326619) (any_of HT_.out (by kernel_rfl)) ?_
             refine Pt.pu 29 (some 136) (Pt.bm 45 738197531) (any_of HT_.out (by kernel_rfl)) ?_
             refine Pt.pu 30 (some 137) (Pt.bm 45 1811939355) (any_of HT_.out (by kernel_rfl)) ?_
             refine Pt.tk 2 (some 109) (Pt.bm 45 1811939359) rfl rfl (take_ofW HT_.out HW_.out (by kernel_rfl)) hHeld (Or.inl ⟨by rfl, by rintro w' ⟨s0, s1, s2, s3, s4, s5, s6, s7⟩; go_simp; with_reducible rfl⟩) ?_
             refine Pt.tk 5 (some 112) (Pt.bm 45 1811939391) rfl rfl (take_ofW HT_.out HW_.out (by kernel_rfl)) hHeld (Or.inl ⟨by rfl, by rintro w' ⟨s0, s1, s2, s3, s4, s5, s6, s7⟩; go_simp; with_reducible rfl⟩) ?_
             refine Pt.pu 6 (some 113) (Pt.bm 45 1811939455) (any_of HT_.out (by kernel_rfl)) ?_
             refine Pt.pu 7 (some 114) (Pt.bm 45 1811939583) (any_of HT_.out (by kernel_rfl)) ?_
             refine Pt.pu 8 (some 115) (Pt.bm 45 1811939839) (any_of HT_.out (by kernel_rfl)) ?_
             refine Pt.pu 9 (some 116) (Pt.bm 45 1811940351) (any_of HT_.out (by kernel_rfl)) ?_
             refine Pt.pu 11 (some 118) (Pt.bm 45 1811942399) (any_of HT_.out (by kernel_rfl)) ?_
             refine Pt.pu 12 (some 119) (Pt.bm 45 1811946495) (any_of HT_.out (by kernel_rfl)) ?_
             refine Pt.tk 10 (some 117) (Pt.bm 45 1811947519) rfl rfl (take_ofW HT_.out HW_.out (by kernel_rfl)) hHeld (Or.inl ⟨by rfl, by rintro w' ⟨s0, s1, s2, s3, s4, s5, s6, s7⟩; go_simp; with_reducible rfl⟩) ?_
             refine Pt.tk 13 (some 120) (Pt.bm 45 1811955711) rfl rfl (take_ofW HT_.out HW_.out (by kernel_rfl)) hHeld (Or.inl ⟨by rfl, by rintro w' ⟨s0, s1, s2, s3, s4, s5, s6, s7⟩; go_simp; with_reducible rfl⟩) ?_
             refine Pt.pu 14 (some 121) (Pt.bm 45 1811972095) (any_of HT_.out (by kernel_rfl)) ?_
             refine Pt.pu 15 (some 122) (Pt.bm 45 1812004863) (any_of HT_.out (by kernel_rfl)) ?_
             refine Pt.pu 16 (some 123) (Pt.bm 45 1812070399) (any_of HT_.out (by kernel_rfl)) ?_
             refine Pt.pn 17 (some 124) (Pt.bm 45 1812201471) (any_of HT_.out (by kernel_rfl)) ?_
             refine Pt.pn 18 (some 125) (Pt.bm 45 1812463615) (any_of HT_.out (by kernel_rfl)) ?_
             refine Pt.pn 19 (some 126) (Pt.bm 45 1812987903) (any_of HT_.out (by kernel_rfl)) ?_
             refine Pt.pn 20 (some 127) (Pt.bm 45 1814036479) (any_of HT_.out (by kernel_rfl)) ?_
             refine Pt.pn 21 (some 128) (Pt.bm 45 1816133631) (any_of HT_.out (by kernel_rfl)) ?_
             refine Pt.pn 22 (some 129) (Pt.bm 45 1820327935) (any_of HT_.out (by kernel_rfl)) ?_
             refine Pt.pn 23 (some 130) (Pt.bm 45 1828716543) (any_of HT_.out (by kernel_rfl)) ?_
             refine Pt.pu 24 (some 131) (Pt.bm 45 1845493759) (any_of HT_.out (by kernel_rfl)) ?_
             refine Pt.tk 28 (some 135) (Pt.bm 45 2113929215) rfl rfl (take_ofW HT_.out HW_.out (by kernel_rfl)) hHeld (Or.inl ⟨by rfl, by rintro w' ⟨s0, s1, s2, s3, s4, s5, s6, s7⟩; go_simp; with_reducible rfl⟩) ?_
             refine Pt.tk 31 (some 138) (Pt.bm 45 4261412863) rfl rfl (take_ofW HT_.out HW_.out (by kernel_rfl)) hHeld (Or.inl ⟨by rfl, by rintro w' ⟨s0, s1, s2, s3, s4, s5, s6, s7⟩; go_simp; with_reducible rfl⟩) ?_
             refine Pt.pu 32 (some 139) (Pt.bm 45 8556380159) (any_of HT_.out (by kernel_rfl)) ?_
             refine one_ (i := 25) (N := some 132) (Pt.bm 45 8589934591) rfl rfl (one_of HT_.out (by kernel_rfl)) (by decide) (fun K hK => ?_)
             refine goes_ Try.func113 (by kernel_rfl) rfl #[.bool false] (by rfl) rfl rfl (by (try simp only [List.map_toArray, List.map_cons, List.map_nil]); first | done | rfl | (simp only [List.length_drop, List.length_take]; rfl)) ?_
             with_reducible refine (spec_l1Truth.calls false t231 _ A67.out).mono ?_
             rintro e w' ⟨rfl, ⟨nd, rfl⟩⟩
             refine ⟨_, rfl, ?_⟩
             refine hK.out _ _ ⟨((HB.out.cell (World.block_lt_of_cell? w _ hw212_0)).trans hw212_0), ((HB.out.cell (World.block_lt_of_cell? w _ hw213_0)).trans hw213_0), ((HB.out.cell (World.block_lt_of_cell? w _ hw214_0)).trans hw214_0), ((HB.out.cell (World.block_lt_of_cell? w _ hw215_0)).trans hw215_0), ((HB.out.cell (World.block_lt_of_cell? w _ hw232_0)).trans hw232_0), ((HB.out.cell (World.block_lt_of_cell? w _ hw233_0)).trans hw233_0), ((HB.out.cell (World.block_lt_of_cell? w _ hw234_0)).trans hw234_0), ((HB.out.cell (World.block_lt_of_cell? w _ hw235_0)).trans hw235_0)⟩ (fun hHeld => ?_)
             clear hK K
             refine norm_ (a' := ?_) ?_ ?_
             rotate_left
             ·show Act.put _ (some 132) _ = _
              simp only [Act.put, List.setIfInBounds_toArray, List.set_cons_zero, List.set_cons_succ, i64_w, i32_w]
              rfl
             refine Pt.pu 33 (some 140) (Pt.bm 45 17179869183) (any_of HT_.out (by kernel_rfl)) ?_
             refine Pt.pu 34 (some 141) (Pt.bm 45 34359738367) (any_of HT_.out (by kernel_rfl)) ?_
             refine Pt.pu 35 (some 142) (Pt.bm 45 68719476735) (any_of HT_.out (by kernel_rfl)) ?_
             refine Pt.pu 37 (some 144) (Pt.bm 45 206158430207) (any_of HT_.out (by kernel_rfl)) ?_
             refine Pt.pu 38 (some 145) (Pt.bm 45 481036337151) (any_of HT_.out (by kernel_rfl)) ?_
             refine Pt.tk 36 (some 143) (Pt.bm 45 549755813887) rfl rfl (take_ofW HT_.out HW_.out (by kernel_rfl)) hHeld (Or.inl ⟨by rfl, by rintro w' ⟨s0, s1, s2, s3, s4, s5, s6, s7⟩; go_simp; with_reducible rfl⟩) ?_
             refine Pt.tk 39 (some 146) (Pt.bm 45 1099511627775) rfl rfl (take_ofW HT_.out HW_.out (by kernel_rfl)) hHeld (Or.inl ⟨by rfl, by rintro w' ⟨s0, s1, s2, s3, s4, s5, s6, s7⟩; go_simp; with_reducible rfl⟩) ?_
             refine Pt.pu 40 (some 147) (Pt.bm 45 2199023255551) (any_of HT_.out (by kernel_rfl)) ?_
             refine Pt.pu 41 (some 148) (Pt.bm 45 4398046511103) (any_of HT_.out (by kernel_rfl)) ?_
             refine one_ (i := 42) (N := some 149) (Pt.bm 45 8796093022207) rfl rfl (one_of HT_.out (by kernel_rfl)) (by decide) (fun K hK => ?_)
             refine goes_ Try.func113 (by kernel_rfl) rfl #[.bool (decide ((rd l2 0) ≤ (rd l1 1)))] (by rfl) rfl rfl (by (try simp only [List.map_toArray, List.map_cons, List.map_nil]); first | done | rfl | (simp only [List.length_drop, List.length_take]; rfl)) ?_
             with_reducible refine (spec_l1Truth.calls (decide ((rd l2 0) ≤ (rd l1 1))) t236 _ A69.out).mono ?_
             rintro e w' ⟨rfl, ⟨nd, rfl⟩⟩
             refine ⟨_, rfl, ?_⟩
             refine hK.out _ _ ⟨((HB.out.cell (World.block_lt_of_cell? w _ hw212_0)).trans hw212_0), ((HB.out.cell (World.block_lt_of_cell? w _ hw213_0)).trans hw213_0), ((HB.out.cell (World.block_lt_of_cell? w _ hw214_0)).trans hw214_0), ((HB.out.cell (World.block_lt_of_cell? w _ hw215_0)).trans hw215_0), ((HB.out.cell (World.block_lt_of_cell? w _ hw232_0)).trans hw232_0), ((HB.out.cell (World.block_lt_of_cell? w _ hw233_0)).trans hw233_0), ((HB.out.cell (World.block_lt_of_cell? w _ hw234_0)).trans hw234_0), ((HB.out.cell (World.block_lt_of_cell? w _ hw235_0)).trans hw235_0)⟩ (fun hHeld => ?_)
             clear hK K
             refine norm_ (a' := ?_) ?_ ?_
             rotate_left
             ·show Act.put _ (some 149) _ = _
              simp only [Act.put, List.setIfInBounds_toArray, List.set_cons_zero, List.set_cons_succ, i64_w, i32_w]
              rfl
             refine one_ (i := 43) (N := some 150) (Pt.bm 45 17592186044415) rfl rfl (one_of HT_.out (by kernel_rfl)) (by decide) (fun K hK => ?_)
             refine Kd.R_lit_step (Kd.int .i64) _ 3 ?hg (N := 150) ?hd (xs := ([t231, t236] : List Int)) (inner := [.int .i64 t231, .int .i64 t236]) (ok := fun _ => True) (okp := fun _ => True) ?hr ?hp (fun _ hk => hk) trivial (Below.refl _ _) (Nat.le_refl _) (by simp) ?_; (case hd => rfl); (case hg => rfl); (case hr => first | (go_simp; done) | (go_simp; rfl)); (case hp => exact (Reps.one (show Kd.M (Kd.int .i64) _ _ _ t231 [.int .i64 t231] from rfl) (Reps.one (show Kd.M (Kd.int .i64) _ _ _ t236 [.int .i64 t236] from rfl) (Reps.none _ _))))
             intro v238 w71 ho72 hb hg_ hnew_
             clear hg_ hnew_
             (first | rw [← Ny237.out] at ho72 | (simp only [Int.reduceToNat] at ho72; rw [← Ny237.out] at ho72))
             have n0_ := Aside0.mk (Kd.R_lower ho72 (below_size (by repeat (first | (with_reducible first | exact HB.out | apply bwA | apply bwN | apply bwD) | exact HB.out))))
             have n1_ := Aside0.mk (below_step (by repeat (first | (with_reducible first | exact HB.out | apply bwA | apply bwN | apply bwD) | exact HB.out)) hb)
             clear HB
             have HO239 := n0_
             have HB := n1_
             clear n0_ n1_
             clear hb ho72
             refine hK.out _ _ ⟨((HB.out.cell (World.block_lt_of_cell? w _ hw212_0)).trans hw212_0), ((HB.out.cell (World.block_lt_of_cell? w _ hw213_0)).trans hw213_0), ((HB.out.cell (World.block_lt_of_cell? w _ hw214_0)).trans hw214_0), ((HB.out.cell (World.block_lt_of_cell? w _ hw215_0)).trans hw215_0), ((HB.out.cell (World.block_lt_of_cell? w _ hw232_0)).trans hw232_0), ((HB.out.cell (World.block_lt_of_cell? w _ hw233_0)).trans hw233_0), ((HB.out.cell (World.block_lt_of_cell? w _ hw234_0)).trans hw234_0), ((HB.out.cell (World.block_lt_of_cell? w _ hw235_0)).trans hw235_0)⟩ (fun hHeld => ?_)
             clear hK K
             refine norm_ (a' := ?_) ?_ ?_
             rotate_left
             ·show Act.put _ (some 150) _ = _
              simp only [Act.put, List.setIfInBounds_toArray, List.set_cons_zero, List.set_cons_succ, i64_w, i32_w]
              rfl
             refine Pt.pu 44 (some 6) (Pt.bm 45 35184372088831) (any_of HT_.out (by kernel_rfl)) ?_
             refine done_ (done_of HT_.out (by kernel_rfl)) ?_
             try go_wp2
             go_ret
             exact ⟨_, by first | rfl | (simp [errW_none, errW_some] <;> rfl) | (simp [*, errW_none, errW_some] <;> rfl), by (with_reducible repeat (first | apply Kd.R_alloc | apply Kd.R_drewN | apply Kd.R_drew)); exact HO239.out, by repeat (first | (with_reducible first | exact HB.out | apply bwA | apply bwN | apply bwD) | exact HB.out)⟩
            ·rw [if_neg c68] at H
             have c68b0 : decide ((rd l1 0) ≤ (rd l2 1)) = false := decide_eq_false c68
             clear c68
             replace H := Option.bind_eq_some_iff.mp H
             obtain ⟨t240, A730, H⟩ := H
             replace H : (some (([t231, t240] : List Int))) = some r := H
             have A73 := Aside0.mk A730
             clear A730
             obtain ⟨y241, hy241⟩ : ∃ y_ : List Int, y_ = (([t231, t240] : List Int)) := ⟨_, rfl⟩
             replace H : (some y241) = some r := by first | (rw [hy241]; with_reducible exact H) | (have H2_ := (Option.bind_some _ _).symm.trans H; rw [hy241]; with_reducible exact H2_) | (have H2_ := (Option.bind_some _ _).symm.trans H; with_reducible exact H2_) | with_reducible exact H | (rw [hy241]; exact H) | exact H
             have Ny241 := Aside0.mk hy241
             clear hy241
             obtain rfl := Option.some.inj H
             go_enter Try.func74, Try.ntmps74
             try go_wp2
             have n0_ := Aside0.mk (below_drew1 HB.out)
             clear HB
             have HB := n0_
             clear n0_
             have p212 : 0 ≤ (0 : Int) := (by omega)
             have q212 : 0 < (l1.length : Int) := of_decide_eq_true (by first | (with_reducible assumption) | assumption)
             obtain ⟨ad212, e212, hx212_0⟩ := Kd.at_int HR1.out 0 p212 q212
             have hw212_0 := hx212_0
             (try rw [show ((0 : Int)).toNat = 0 from rfl] at hw212_0)
             (try rw [show 0 * 1 = 0 from rfl] at hw212_0)
             (try rw [Addr.add_zero'] at hw212_0)
             cases e212
             have qi212 : (0 < l1.length) = True := eq_true (by omega)
             (try rw [show ((0 : Int)).toNat = 0 from rfl] at hx212_0)
             (try rw [Addr.add_zero'] at hx212_0)
             try replace hx212_0 := (HB.out.cell (World.block_lt_of_cell? w _ hx212_0)).trans hx212_0
             replace p212 := eq_true p212
             replace q212 := eq_true q212
             have p213 : 0 ≤ (1 : Int) := (by omega)
             have q213 : 1 < (l1.length : Int) := of_decide_eq_true (by first | (with_reducible assumption) | assumption)
             obtain ⟨ad213, e213, hx213_0⟩ := Kd.at_int HR1.out 1 p213 q213
             have hw213_0 := hx213_0
             (try rw [show ((1 : Int)).toNat = 1 from rfl] at hw213_0)
             (try rw [show 1 * 1 = 1 from rfl] at hw213_0)
             (try simp only [Nat.reduceMul, Nat.reduceEqDiff, Go.Addr.add, ↓reduceIte] at hw213_0)
             obtain rfl : ad212 = ad213 := (by injection e213)
             (try simp only [show (1 : Int).toNat = 1 from rfl, Nat.reduceMul, Nat.reduceEqDiff, Go.Addr.add, ↓reduceIte] at hx213_0)
             have qi213 : (1 < l1.length) = True := eq_true (by omega)
             (try rw [show ((1 : Int)).toNat = 1 from rfl] at hx213_0)
             try replace hx213_0 := (HB.out.cell (World.block_lt_of_cell? w _ hx213_0)).trans hx213_0
             replace p213 := eq_true p213
             replace q213 := eq_true q213
             have p214 : 0 ≤ (0 : Int) := (by omega)
             have q214 : 0 < (l2.length : Int) := of_decide_eq_true (by first | (with_reducible assumption) | assumption)
             obtain ⟨ad214, e214, hx214_0⟩ := Kd.at_int HR2.out 0 p214 q214
             have hw214_0 := hx214_0
             (try rw [show ((0 : Int)).toNat = 0 from rfl] at hw214_0)
             (try rw [show 0 * 1 = 0 from rfl] at hw214_0)
             (try rw [Addr.add_zero'] at hw214_0)
             cases e214
             have qi214 : (0 < l2.length) = True := eq_true (by omega)
             (try rw [show ((0 : Int)).toNat = 0 from rfl] at hx214_0)
             (try rw [Addr.add_zero'] at hx214_0)
             try replace hx214_0 := (HB.out.cell (World.block_lt_of_cell? w _ hx214_0)).trans hx214_0
             replace p214 := eq_true p214
             replace q214 := eq_true q214
             have p215 : 0 ≤ (1 : Int) := (by omega)
             have q215 : 1 < (l2.length : Int) := of_decide_eq_true (by first | (with_reducible assumption) | assumption)
             obtain ⟨ad215, e215, hx215_0⟩ := Kd.at_int HR2.out 1 p215 q215
             have hw215_0 := hx215_0
             (try rw [show ((1 : Int)).toNat = 1 from rfl] at hw215_0)
             (try rw [show 1 * 1 = 1 from rfl] at hw215_0)
             (try simp only [Nat.reduceMul, Nat.reduceEqDiff, Go.Addr.add, ↓reduceIte] at hw215_0)
             obtain rfl : ad214 = ad215 := (by injection e215)
             (try simp only [show (1 : Int).toNat = 1 from rfl, Nat.reduceMul, Nat.reduceEqDiff, Go.Addr.add, ↓reduceIte] at hx215_0)
             have qi215 : (1 < l2.length) = True := eq_true (by omega)
             (try rw [show ((1 : Int)).toNat = 1 from rfl] at hx215_0)
             try replace hx215_0 := (HB.out.cell (World.block_lt_of_cell? w _ hx215_0)).trans hx215_0
             replace p215 := eq_true p215
             replace q215 := eq_true q215
             have p232 : 0 ≤ (0 : Int) := (by omega)
             have q232 : 0 < (l1.length : Int) := of_decide_eq_true (by first | (with_reducible assumption) | assumption)
             obtain ⟨ad232, e232, hx232_0⟩ := Kd.at_int HR1.out 0 p232 q232
             have hw232_0 := hx232_0
             (try rw [show ((0 : Int)).toNat = 0 from rfl] at hw232_0)
             (try rw [show 0 * 1 = 0 from rfl] at hw232_0)
             (try rw [Addr.add_zero'] at hw232_0)
             obtain rfl : ad212 = ad232 := (by injection e232)
             have qi232 : (0 < l1.length) = True := eq_true (by omega)
             (try rw [show ((0 : Int)).toNat = 0 from rfl] at hx232_0)
             (try rw [Addr.add_zero'] at hx232_0)
             try replace hx232_0 := (HB.out.cell (World.block_lt_of_cell? w _ hx232_0)).trans hx232_0
             replace p232 := eq_true p232
             replace q232 := eq_true q232
             have p233 : 0 ≤ (1 : Int) := (by omega)
             have q233 : 1 < (l2.length : Int) := of_decide_eq_true (by first | (with_reducible assumption) | assumption)
             obtain ⟨ad233, e233, hx233_0⟩ := Kd.at_int HR2.out 1 p233 q233
             have hw233_0 := hx233_0
             (try rw [show ((1 : Int)).toNat = 1 from rfl] at hw233_0)
             (try rw [show 1 * 1 = 1 from rfl] at hw233_0)
             (try simp only [Nat.reduceMul, Nat.reduceEqDiff, Go.Addr.add, ↓reduceIte] at hw233_0)
             obtain rfl : ad214 = ad233 := (by injection e233)
             (try simp only [show (1 : Int).toNat = 1 from rfl, Nat.reduceMul, Nat.reduceEqDiff, Go.Addr.add, ↓reduceIte] at hx233_0)
             have qi233 : (1 < l2.length) = True := eq_true (by omega)
             (try rw [show ((1 : Int)).toNat = 1 from rfl] at hx233_0)
             try replace hx233_0 := (HB.out.cell (World.block_lt_of_cell? w _ hx233_0)).trans hx233_0
             replace p233 := eq_true p233
             replace q233 := eq_true q233
             refine start_ (n := 45) (S := fun w' => w'.cell? ad212 = some (.int .i64 (rd l1 0)) ∧ w'.cell? ⟨ad212.block, ad212.off + 1, none⟩ = some (.int .i64 (rd l1 1)) ∧ w'.cell? ad214 = some (.int .i64 (rd l2 0)) ∧ w'.cell? ⟨ad214.block, ad214.off + 1, none⟩ = some (.int .i64 (rd l2 1)) ∧ w'.cell? ad212 = some (.int .i64 (rd l1 0)) ∧ w'.cell? ⟨ad214.block, ad214.off + 1, none⟩ = some (.int .i64 (rd l2 1))) (ds := []) (Pt.bm 45 0) (by kernel_rfl) rfl rfl ⟨((HB.out.cell (World.block_lt_of_cell? w _ hw212_0)).trans hw212_0), ((HB.out.cell (World.block_lt_of_cell? w _ hw213_0)).trans hw213_0), ((HB.out.cell (World.block_lt_of_cell? w _ hw214_0)).trans hw214_0), ((HB.out.cell (World.block_lt_of_cell? w _ hw215_0)).trans hw215_0), ((HB.out.cell (World.block_lt_of_cell? w _ hw232_0)).trans hw232_0), ((HB.out.cell (World.block_lt_of_cell? w _ hw233_0)).trans hw233_0)⟩ (fun hHeld => ?_); refine with_tabW spec_l1Between.tab11 spec_l1Between.bits11 (fun HT_ HW_ => ?_)
             generalize w.drew = w74 at HB hx212_0 hx213_0 hx214_0 hx215_0 hx232_0 hx233_0 hHeld ⊢
             refine Pt.pu 0 (some 107) (Pt.bm 45 1) (any_of HT_.out (by kernel_rfl)) ?_
             refine Pt.pu 1 (some 108) (Pt.bm 45 3) (any_of HT_.out (by kernel_rfl)) ?_
             refine Pt.pu 3 (some 110) (Pt.bm 45 11) (any_of HT_.out (by kernel_rfl)) ?_
             refine Pt.pu 4 (some 111) (Pt.bm 45 27) (any_of HT_.out (by kernel_rfl)) ?_
             refine Pt.pu 26 (some 133) (Pt.bm 45 67108891) (any_of HT_.out (by kernel_rfl)) ?_
             refine Pt.pu 27 (some 134) (Pt.bm 45 201326619) (any_of HT_.out (by kernel_rfl)) ?_
             refine Pt.pu 29 (some 136) (Pt.bm 45 738197531) (any_of HT_.out (by kernel_rfl)) ?_
             refine Pt.pu 30 (some 137) (Pt.bm 45 1811939355) (any_of HT_.out (by kernel_rfl)) ?_
             refine Pt.tk 2 (some 109) (Pt.bm 45 1811939359) rfl rfl (take_ofW HT_.out HW_.out (by kernel_rfl)) hHeld (Or.inl ⟨by rfl, by rintro w' ⟨s0, s1, s2, s3, s4, s5⟩; go_simp; with_reducible rfl⟩) ?_
             refine Pt.tk 5 (some 112) (Pt.bm 45 1811939391) rfl rfl (take_ofW HT_.out HW_.out (by kernel_rfl)) hHeld (Or.inl ⟨by rfl, by rintro w' ⟨s0, s1, s2, s3, s4, s5⟩; go_simp; with_reducible rfl⟩) ?_
             refine Pt.pu 6 (some 113) (Pt.bm 45 1811939455) (any_of HT_.out (by kernel_rfl)) ?_
             refine Pt.pu 7 (some 114) (Pt.bm 45 1811939583) (any_of HT_.out (by kernel_rfl)) ?_
             refine Pt.pu 8 (some 115) (Pt.bm 45 1811939839) (any_of HT_.out (by kernel_rfl)) ?_
             refine Pt.pu 9 (some 116) (Pt.bm 45 1811940351) (any_of HT_.out (by kernel_rfl)) ?_
             refine Pt.pu 11 (some 118) (Pt.bm 45 1811942399) (any_of HT_.out (by kernel_rfl)) ?_
             refine Pt.pu 12 (some 119) (Pt.bm 45 1811946495) (any_of HT_.out (by kernel_rfl)) ?_
             refine Pt.tk 10 (some 117) (Pt.bm 45 1811947519) rfl rfl (take_ofW HT_.out HW_.out (by kernel_rfl)) hHeld (Or.inl ⟨by rfl, by rintro w' ⟨s0, s1, s2, s3, s4, s5⟩; go_simp; with_reducible rfl⟩) ?_
             refine Pt.tk 13 (some 120) (Pt.bm 45 1811955711) rfl rfl (take_ofW HT_.out HW_.out (by kernel_rfl)) hHeld (Or.inl ⟨by rfl, by rintro w' ⟨s0, s1, s2, s3, s4, s5⟩; go_simp; with_reducible rfl⟩) ?_
             refine Pt.pu 14 (some 121) (Pt.bm 45 1811972095) (any_of HT_.out (by kernel_rfl)) ?_
             refine Pt.pu 15 (some 122) (Pt.bm 45 1812004863) (any_of HT_.out (by kernel_rfl)) ?_
             refine Pt.pu 16 (some 123) (Pt.bm 45 1812070399) (any_of HT_.out (by kernel_rfl)) ?_
             refine Pt.pn 17 (some 124) (Pt.bm 45 1812201471) (any_of HT_.out (by kernel_rfl)) ?_
             refine Pt.pn 18 (some 125) (Pt.bm 45 1812463615) (any_of HT_.out (by kernel_rfl)) ?_
             refine Pt.pn 19 (some 126) (Pt.bm 45 1812987903) (any_of HT_.out (by kernel_rfl)) ?_
             refine Pt.pn 20 (some 127) (Pt.bm 45 1814036479) (any_of HT_.out (by kernel_rfl)) ?_
             refine Pt.pn 21 (some 128) (Pt.bm 45 1816133631) (any_of HT_.out (by kernel_rfl)) ?_
             refine Pt.pn 22 (some 129) (Pt.bm 45 1820327935) (any_of HT_.out (by kernel_rfl)) ?_
             refine Pt.pn 23 (some 130) (Pt.bm 45 1828716543) (any_of HT_.out (by kernel_rfl)) ?_
             refine Pt.pu 24 (some 131) (Pt.bm 45 1845493759) (any_of HT_.out (by kernel_rfl)) ?_
             refine Pt.tk 28 (some 135) (Pt.bm 45 2113929215) rfl rfl (take_ofW HT_.out HW_.out (by kernel_rfl)) hHeld (Or.inl ⟨by rfl, by rintro w' ⟨s0, s1, s2, s3, s4, s5⟩; go_simp; with_reducible rfl⟩) ?_
             refine Pt.tk 31 (some 138) (Pt.bm 45 4261412863) rfl rfl (take_ofW HT_.out HW_.out (by kernel_rfl)) hHeld (Or.inl ⟨by rfl, by rintro w' ⟨s0, s1, s2, s3, s4, s5⟩; go_simp; with_reducible rfl⟩) ?_
             refine Pt.pu 32 (some 139) (Pt.bm 45 8556380159) (any_of HT_.out (by kernel_rfl)) ?_
             refine one_ (i := 25) (N := some 132) (Pt.bm 45 8589934591) rfl rfl (one_of HT_.out (by kernel_rfl)) (by decide) (fun K hK => ?_)
             refine goes_ Try.func113 (by kernel_rfl) rfl #[.bool false] (by rfl) rfl rfl (by (try simp only [List.map_toArray, List.map_cons, List.map_nil]); first | done | rfl | (simp only [List.length_drop, List.length_take]; rfl)) ?_
             with_reducible refine (spec_l1Truth.calls false t231 _ A67.out).mono ?_
             rintro e w' ⟨rfl, ⟨nd, rfl⟩⟩
             refine ⟨_, rfl, ?_⟩
             refine hK.out _ _ ⟨((HB.out.cell (World.block_lt_of_cell? w _ hw212_0)).trans hw212_0), ((HB.out.cell (World.block_lt_of_cell? w _ hw213_0)).trans hw213_0), ((HB.out.cell (World.block_lt_of_cell? w _ hw214_0)).trans hw214_0), ((HB.out.cell (World.block_lt_of_cell? w _ hw215_0)).trans hw215_0), ((HB.out.cell (World.block_lt_of_cell? w _ hw232_0)).trans hw232_0), ((HB.out.cell (World.block_lt_of_cell? w _ hw233_0)).trans hw233_0)⟩ (fun hHeld => ?_)
             clear hK K
             refine norm_ (a' := ?_) ?_ ?_
             rotate_left
             ·show Act.put _ (some 132) _ = _
              simp only [Act.put, List.setIfInBounds_toArray, List.set_cons_zero, List.set_cons_succ, i64_w, i32_w]
              rfl
             refine Pt.pu 33 (some 140) (Pt.bm 45 17179869183) (any_of HT_.out (by kernel_rfl)) ?_
             refine Pt.pn 34 (some 141) (Pt.bm 45 34359738367) (any_of HT_.out (by kernel_rfl)) ?_
             refine Pt.pn 35 (some 142) (Pt.bm 45 68719476735) (any_of HT_.out (by kernel_rfl)) ?_
             refine Pt.pn 36 (some 143) (Pt.bm 45 137438953471) (any_of HT_.out (by kernel_rfl)) ?_
             refine Pt.pn 37 (some 144) (Pt.bm 45 274877906943) (any_of HT_.out (by kernel_rfl)) ?_
             refine Pt.pn 38 (some 145) (Pt.bm 45 549755813887) (any_of HT_.out (by kernel_rfl)) ?_
             refine Pt.pn 39 (some 146) (Pt.bm 45 1099511627775) (any_of HT_.out (by kernel_rfl)) ?_
             refine Pt.pn 40 (some 147) (Pt.bm 45 2199023255551) (any_of HT_.out (by kernel_rfl)) ?_
             refine Pt.pu 41 (some 148) (Pt.bm 45 4398046511103) (any_of HT_.out (by kernel_rfl)) ?_
             refine one_ (i := 42) (N := some 149) (Pt.bm 45 8796093022207) rfl rfl (one_of HT_.out (by kernel_rfl)) (by decide) (fun K hK => ?_)
             refine goes_ Try.func113 (by kernel_rfl) rfl #[.bool false] (by rfl) rfl rfl (by (try simp only [List.map_toArray, List.map_cons, List.map_nil]); first | done | rfl | (simp only [List.length_drop, List.length_take]; rfl)) ?_
             with_reducible refine (spec_l1Truth.calls false t240 _ A73.out).mono ?_
             rintro e w' ⟨rfl, ⟨nd, rfl⟩⟩
             refine ⟨_, rfl, ?_⟩
             refine hK.out _ _ ⟨((HB.out.cell (World.block_lt_of_cell? w _ hw212_0)).trans hw212_0), ((HB.out.cell (World.block_lt_of_cell? w _ hw213_0)).trans hw213_0), ((HB.out.cell (World.block_lt_of_cell? w _ hw214_0)).trans hw214_0), ((HB.out.cell (World.block_lt_of_cell? w _ hw215_0)).trans hw215_0), ((HB.out.cell (World.block_lt_of_cell? w _ hw232_0)).trans hw232_0), ((HB.out.cell (World.block_lt_of_cell? w _ hw233_0)).trans hw233_0)⟩ (fun hHeld => ?_)
             clear hK K
             refine norm_ (a' := ?_) ?_ ?_
             rotate_left
             ·show Act.put _ (some 149) _ = _
              simp only [Act.put, List.setIfInBounds_toArray, List.set_cons_zero, List.set_cons_succ, i64_w, i32_w]
              rfl
             refine one_ (i := 43) (N := some 150) (Pt.bm 45 17592186044415) rfl rfl (one_of HT_.out (by kernel_rfl)) (by decide) (fun K hK => ?_)
             refine Kd.R_lit_step (Kd.int .i64) _ 3 ?hg (N := 150) ?hd (xs := ([t231, t240] : List Int)) (inner := [.int .i64 t231, .int .i64 t240]) (ok := fun _ => True) (okp := fun _ => True) ?hr ?hp (fun _ hk => hk) trivial (Below.refl _ _) (Nat.le_refl _) (by simp) ?_; (case hd => rfl); (case hg => rfl); (case hr => first | (go_simp; done) | (go_simp; rfl)); (case hp => exact (Reps.one (show Kd.M (Kd.int .i64) _ _ _ t231 [.int .i64 t231] from rfl) (Reps.one (show Kd.M (Kd.int .i64) _ _ _ t240 [.int .i64 t240] from rfl) (Reps.none _ _))))
             intro v242 w75 ho76 hb hg_ hnew_
             clear hg_ hnew_
             (first | rw [← Ny241.out] at ho76 | (simp only [Int.reduceToNat] at ho76; rw [← Ny241.out] at ho76))
             have n0_ := Aside0.mk (Kd.R_lower ho76 (below_size (by repeat (first | (with_reducible first | exact HB.out | apply bwA | apply bwN | apply bwD) | exact HB.out))))
             have n1_ := Aside0.mk (below_step (by repeat (first | (with_reducible first | exact HB.out | apply bwA | apply bwN | apply bwD) | exact HB.out)) hb)
             clear HB
             have HO243 := n0_
             have HB := n1_
             clear n0_ n1_
             clear hb ho76
             refine hK.out _ _ ⟨((HB.out.cell (World.block_lt_of_cell? w _ hw212_0)).trans hw212_0), ((HB.out.cell (World.block_lt_of_cell? w _ hw213_0)).trans hw213_0), ((HB.out.cell (World.block_lt_of_cell? w _ hw214_0)).trans hw214_0), ((HB.out.cell (World.block_lt_of_cell? w _ hw215_0)).trans hw215_0), ((HB.out.cell (World.block_lt_of_cell? w _ hw232_0)).trans hw232_0), ((HB.out.cell (World.block_lt_of_cell? w _ hw233_0)).trans hw233_0)⟩ (fun hHeld => ?_)
             clear hK K
             refine norm_ (a' := ?_) ?_ ?_
             rotate_left
             ·show Act.put _ (some 150) _ = _
              simp only [Act.put, List.setIfInBounds_toArray, List.set_cons_zero, List.set_cons_succ, i64_w, i32_w]
              rfl
             refine Pt.pu 44 (some 6) (Pt.bm 45 35184372088831) (any_of HT_.out (by kernel_rfl)) ?_
             refine done_ (done_of HT_.out (by kernel_rfl)) ?_
             try go_wp2
             go_ret
             exact ⟨_, by first | rfl | (simp [errW_none, errW_some] <;> rfl) | (simp [*, errW_none, errW_some] <;> rfl), by (with_reducible repeat (first | apply Kd.R_alloc | apply Kd.R_drewN | apply Kd.R_drew)); exact HO243.out, by repeat (first | (with_reducible first | exact HB.out | apply bwA | apply bwN | apply bwD) | exact HB.out)⟩
          ·rw [if_neg c55] at H
           exact absurd H (by simp)
         ·rw [if_neg c54] at H
          exact absurd H (by simp)
        ·rw [if_neg c53] at H
         have c53b0 : ((rd l1 0) == (rd l1 1)) = false := beq_eq_false_iff_ne.mpr c53
         have c53b1 : ((rd l1 0) != (rd l1 1)) = true := bne_iff_ne.mpr c53
         replace H := Option.bind_eq_some_iff.mp H
         obtain ⟨t244, A770, H⟩ := H
         replace H : (if 1 < (l2.length : Int) then (if (rd l1 0) ≤ (rd l2 1) then (if 0 < (l2.length : Int) then ((spec_l1Truth.f (decide ((rd l2 0) ≤ (rd l1 1)))).bind fun t249 => (some (([t244, t249] : List Int)))) else (none)) else ((spec_l1Truth.f false).bind fun t253 => (some (([t244, t253] : List Int))))) else (none)) = some r := H
         have A77 := Aside0.mk A770
         clear A770
         by_cases c78 : 1 < (l2.length : Int)
         ·rw [if_pos c78] at H
          have c78b0 : decide (1 < (l2.length : Int)) = true := decide_eq_true c78
          have c78b1 : decide (1 < l2.length) = true := decide_eq_true (by omega)
          clear c78
          by_cases c79 : (rd l1 0) ≤ (rd l2 1)
          ·rw [if_pos c79] at H
           have c79b0 : decide ((rd l1 0) ≤ (rd l2 1)) = true := decide_eq_true c79
           clear c79
           by_cases c80 : 0 < (l2.length : Int)
           ·rw [if_pos c80] at H
            have c80b0 : decide (0 < (l2.length : Int)) = true := decide_eq_true c80
            have c80b1 : decide (0 < l2.length) = true := decide_eq_true (by omega)
            clear c80
            replace H := Option.bind_eq_some_iff.mp H
            obtain ⟨t249, A810, H⟩ := H
            replace H : (some (([t244, t249] : List Int))) = some r := H
            have A81 := Aside0.mk A810
            clear A810
            obtain ⟨y250, hy250⟩ : ∃ y_ : List Int, y_ = (([t244, t249] : List Int)) := ⟨_, rfl⟩
            replace H : (some y250) = some r := by first | (rw [hy250]; with_reducible exact H) | (have H2_ := (Option.bind_some _ _).symm.trans H; rw [hy250]; with_reducible exact H2_) | (have H2_ := (Option.bind_some _ _).symm.trans H; with_reducible exact H2_) | with_reducible exact H | (rw [hy250]; exact H) | exact H
            have Ny250 := Aside0.mk hy250
            clear hy250
            obtain rfl := Option.some.inj H
            go_enter Try.func74, Try.ntmps74
            try go_wp2
            have n0_ := Aside0.mk (below_drew1 HB.out)
            clear HB
            have HB := n0_
            clear n0_
            have p212 : 0 ≤ (0 : Int) := (by omega)
            have q212 : 0 < (l1.length : Int) := of_decide_eq_true (by first | (with_reducible assumption) | assumption)
            obtain ⟨ad212, e212, hx212_0⟩ := Kd.at_int HR1.out 0 p212 q212
            have hw212_0 := hx212_0
            (try rw [show ((0 : Int)).toNat = 0 from rfl] at hw212_0)
            (try rw [show 0 * 1 = 0 from rfl] at hw212_0)
            (try rw [Addr.add_zero'] at hw212_0)
            cases e212
            have qi212 : (0 < l1.length) = True := eq_true (by omega)
            (try rw [show ((0 : Int)).toNat = 0 from rfl] at hx212_0)
            (try rw [Addr.add_zero'] at hx212_0)
            try replace hx212_0 := (HB.out.cell (World.block_lt_of_cell? w _ hx212_0)).trans hx212_0
            replace p212 := eq_true p212
            replace q212 := eq_true q212
            have p213 : 0 ≤ (1 : Int) := (by omega)
            have q213 : 1 < (l1.length : Int) := of_decide_eq_true (by first | (with_reducible assumption) | assumption)
            obtain ⟨ad213, e213, hx213_0⟩ := Kd.at_int HR1.out 1 p213 q213
            have hw213_0 := hx213_0
            (try rw [show ((1 : Int)).toNat = 1 from rfl] at hw213_0)
            (try rw [show 1 * 1 = 1 from rfl] at hw213_0)
            (try simp only [Nat.reduceMul, Nat.reduceEqDiff, Go.Addr.add, ↓reduceIte] at hw213_0)
            obtain rfl : ad212 = ad213 := (by injection e213)
            (try simp only [show (1 : Int).toNat = 1 from rfl, Nat.reduceMul, Nat.reduceEqDiff, Go.Addr.add, ↓reduceIte] at hx213_0)
            have qi213 : (1 < l1.length) = True := eq_true (by omega)
            (try rw [show ((1 : Int)).toNat = 1 from rfl] at hx213_0)
            try replace hx213_0 := (HB.out.cell (World.block_lt_of_cell? w _ hx213_0)).trans hx213_0
            replace p213 := eq_true p213
            replace q213 := eq_true q213
            have p245 : 0 ≤ (0 : Int) := (by omega)
            have q245 : 0 < (l1.length : Int) := of_decide_eq_true (by first | (with_reducible assumption) | assumption)
            obtain ⟨ad245, e245, hx245_0⟩ := Kd.at_int HR1.out 0 p245 q245
            have hw245_0 := hx245_0
            (try rw [show ((0 : Int)).toNat = 0 from rfl] at hw245_0)
            (try rw [show 0 * 1 = 0 from rfl] at hw245_0)
            (try rw [Addr.add_zero'] at hw245_0)
            obtain rfl : ad212 = ad245 := (by injection e245)
            have qi245 : (0 < l1.length) = True := eq_true (by omega)
            (try rw [show ((0 : Int)).toNat = 0 from rfl] at hx245_0)
            (try rw [Addr.add_zero'] at hx245_0)
            try replace hx245_0 := (HB.out.cell (World.block_lt_of_cell? w _ hx245_0)).trans hx245_0
            replace p245 := eq_true p245
            replace q245 := eq_true q245
            have p246 : 0 ≤ (1 : Int) := (by omega)
            have q246 : 1 < (l2.length : Int) := of_decide_eq_true (by first | (with_reducible assumption) | assumption)
            obtain ⟨ad246, e246, hx246_0⟩ := Kd.at_int HR2.out 1 p246 q246
            have hw246_0 := hx246_0
            (try rw [show ((1 : Int)).toNat = 1 from rfl] at hw246_0)
            (try rw [show 1 * 1 = 1 from rfl] at hw246_0)
            (try simp only [Nat.reduceMul, Nat.reduceEqDiff, Go.Addr.add, ↓reduceIte] at hw246_0)
            cases e246
            (try simp only [show (1 : Int).toNat = 1 from rfl, Nat.reduceMul, Nat.reduceEqDiff, Go.Addr.add, ↓reduceIte] at hx246_0)
            have qi246 : (1 < l2.length) = True := eq_true (by omega)
            (try rw [show ((1 : Int)).toNat = 1 from rfl] at hx246_0)
            try replace hx246_0 := (HB.out.cell (World.block_lt_of_cell? w _ hx246_0)).trans hx246_0
            replace p246 := eq_true p246
            replace q246 := eq_true q246
            have p247 : 0 ≤ (0 : Int) := (by omega)
            have q247 : 0 < (l2.length : Int) := of_decide_eq_true (by first | (with_reducible assumption) | assumption)
            obtain ⟨ad247, e247, hx247_0⟩ := Kd.at_int HR2.out 0 p247 q247
            have hw247_0 := hx247_0
            (try rw [show ((0 : Int)).toNat = 0 from rfl] at hw247_0)
            (try rw [show 0 * 1 = 0 from rfl] at hw247_0)
            (try rw [Addr.add_zero'] at hw247_0)
            obtain rfl : ad246 = ad247 := (by injection e247)
            have qi247 : (0 < l2.length) = True := eq_true (by omega)
            (try rw [show ((0 : Int)).toNat = 0 from rfl] at hx247_0)
            (try rw [Addr.add_zero'] at hx247_0)
            try replace hx247_0 := (HB.out.cell (World.block_lt_of_cell? w _ hx247_0)).trans hx247_0
            replace p247 := eq_true p247
            replace q247 := eq_true q247
            have p248 : 0 ≤ (1 : Int) := (by omega)
            have q248 : 1 < (l1.length : Int) := of_decide_eq_true (by first | (with_reducible assumption) | assumption)
            obtain ⟨ad248, e248, hx248_0⟩ := Kd.at_int HR1.out 1 p248 q248
            have hw248_0 := hx248_0
            (try rw [show ((1 : Int)).toNat = 1 from rfl] at hw248_0)
            (try rw [show 1 * 1 = 1 from rfl] at hw248_0)
            (try simp only [Nat.reduceMul, Nat.reduceEqDiff, Go.Addr.add, ↓reduceIte] at hw248_0)
            obtain rfl : ad212 = ad248 := (by injection e248)
            (try simp only [show (1 : Int).toNat = 1 from rfl, Nat.reduceMul, Nat.reduceEqDiff, Go.Addr.add, ↓reduceIte] at hx248_0)
            have qi248 : (1 < l1.length) = True := eq_true (by omega)
            (try rw [show ((1 : Int)).toNat = 1 from rfl] at hx248_0)
            try replace hx248_0 := (HB.out.cell (World.block_lt_of_cell? w _ hx248_0)).trans hx248_0
            replace p248 := eq_true p248
            replace q248 := eq_true q248
            refine start_ (n := 45) (S := fun w' => w'.cell? ad212 = some (.int .i64 (rd l1 0)) ∧ w'.cell? ⟨ad212.block, ad212.off + 1, none⟩ = some (.int .i64 (rd l1 1)) ∧ w'.cell? ad212 = some (.int .i64 (rd l1 0)) ∧ w'.cell? ⟨ad246.block, ad246.off + 1, none⟩ = some (.int .i64 (rd l2 1)) ∧ w'.cell? ad246 = some (.int .i64 (rd l2 0)) ∧ w'.cell? ⟨ad212.block, ad212.off + 1, none⟩ = some (.int .i64 (rd l1 1))) (ds := []) (Pt.bm 45 0) (by kernel_rfl) rfl rfl ⟨((HB.out.cell (World.block_lt_of_cell? w _ hw212_0)).trans hw212_0), ((HB.out.cell (World.block_lt_of_cell? w _ hw213_0)).trans hw213_0), ((HB.out.cell (World.block_lt_of_cell? w _ hw245_0)).trans hw245_0), ((HB.out.cell (World.block_lt_of_cell? w _ hw246_0)).trans hw246_0), ((HB.out.cell (World.block_lt_of_cell? w _ hw247_0)).trans hw247_0), ((HB.out.cell (World.block_lt_of_cell? w _ hw248_0)).trans hw248_0)⟩ (fun hHeld => ?_); refine with_tabW spec_l1Between.tab11 spec_l1Between.bits11 (fun HT_ HW_ => ?_)
            generalize w.drew = w82 at HB hx212_0 hx213_0 hx245_0 hx246_0 hx247_0 hx248_0 hHeld ⊢
            refine Pt.pu 0 (some 107) (Pt.bm 45 1) (any_of HT_.out (by kernel_rfl)) ?_
            refine Pt.pu 1 (some 108) (Pt.bm 45 3) (any_of HT_.out (by kernel_rfl)) ?_
            refine Pt.pu 3 (some 110) (Pt.bm 45 11) (any_of HT_.out (by kernel_rfl)) ?_
            refine Pt.pu 4 (some 111) (Pt.bm 45 27) (any_of HT_.out (by kernel_rfl)) ?_
            refine Pt.pu 26 (some 133) (Pt.bm 45 67108891) (any_of HT_.out (by kernel_rfl)) ?_
            refine Pt.pu 27 (some 134) (Pt.bm 45 201326619) (any_of HT_.out (by kernel_rfl)) ?_
            refine Pt.pu 29 (some 136) (Pt.bm 45 738197531) (any_of HT_.out (by kernel_rfl)) ?_
            refine Pt.pu 30 (some 137) (Pt.bm 45 1811939355) (any_of HT_.out (by kernel_rfl)) ?_
            refine Pt.tk 2 (some 109) (Pt.bm 45 1811939359) rfl rfl (take_ofW HT_.out HW_.out (by kernel_rfl)) hHeld (Or.inl ⟨by rfl, by rintro w' ⟨s0, s1, s2, s3, s4, s5⟩; go_simp; with_reducible rfl⟩) ?_
            refine Pt.tk 5 (some 112) (Pt.bm 45 1811939391) rfl rfl (take_ofW HT_.out HW_.out (by kernel_rfl)) hHeld (Or.inl ⟨by rfl, by rintro w' ⟨s0, s1, s2, s3, s4, s5⟩; go_simp; with_reducible rfl⟩) ?_
            refine Pt.pu 6 (some 113) (Pt.bm 45 1811939455) (any_of HT_.out (by kernel_rfl)) ?_
            refine Pt.pu 7 (some 114) (Pt.bm 45 1811939583) (any_of HT_.out (by kernel_rfl)) ?_
            refine Pt.pn 8 (some 115) (Pt.bm 45 1811939839) (any_of HT_.out (by kernel_rfl)) ?_
            refine Pt.pn 9 (some 116) (Pt.bm 45 1811940351) (any_of HT_.out (by kernel_rfl)) ?_
            refine Pt.pn 10 (some 117) (Pt.bm 45 1811941375) (any_of HT_.out (by kernel_rfl)) ?_
            refine Pt.pn 11 (some 118) (Pt.bm 45 1811943423) (any_of HT_.out (by kernel_rfl)) ?_
            refine Pt.pn 12 (some 119) (Pt.bm 45 1811947519) (any_of HT_.out (by kernel_rfl)) ?_
            refine Pt.pn 13 (some 120) (Pt.bm 45 1811955711) (any_of HT_.out (by kernel_rfl)) ?_
            refine Pt.pn 14 (some 121) (Pt.bm 45 1811972095) (any_of HT_.out (by kernel_rfl)) ?_
            refine Pt.pu 15 (some 122) (Pt.bm 45 1812004863) (any_of HT_.out (by kernel_rfl)) ?_
            refine Pt.pu 16 (some 123) (Pt.bm 45 1812070399) (any_of HT_.out (by kernel_rfl)) ?_
            refine Pt.pn 17 (some 124) (Pt.bm 45 1812201471) (any_of HT_.out (by kernel_rfl)) ?_
            refine Pt.pn 18 (some 125) (Pt.bm 45 1812463615) (any_of HT_.out (by kernel_rfl)) ?_
            refine Pt.pn 19 (some 126) (Pt.bm 45 1812987903) (any_of HT_.out (by kernel_rfl)) ?_
            refine Pt.pn 20 (some 127) (Pt.bm 45 1814036479) (any_of HT_.out (by kernel_rfl)) ?_
            refine Pt.pn 21 (some 128) (Pt.bm 45 1816133631) (any_of HT_.out (by kernel_rfl)) ?_
            refine Pt.pn 22 (some 129) (Pt.bm 45 1820327935) (any_of HT_.out (by kernel_rfl)) ?_
            refine Pt.pn 23 (some 130) (Pt.bm 45 1828716543) (any_of HT_.out (by kernel_rfl)) ?_
            refine Pt.pu 24 (some 131) (Pt.bm 45 1845493759) (any_of HT_.out (by kernel_rfl)) ?_
            refine Pt.tk 28 (some 135) (Pt.bm 45 2113929215) rfl rfl (take_ofW HT_.out HW_.out (by kernel_rfl)) hHeld (Or.inl ⟨by rfl, by rintro w' ⟨s0, s1, s2, s3, s4, s5⟩; go_simp; with_reducible rfl⟩) ?_
            refine Pt.tk 31 (some 138) (Pt.bm 45 4261412863) rfl rfl (take_ofW HT_.out HW_.out (by kernel_rfl)) hHeld (Or.inl ⟨by rfl, by rintro w' ⟨s0, s1, s2, s3, s4, s5⟩; go_simp; with_reducible rfl⟩) ?_
            refine Pt.pu 32 (some 139) (Pt.bm 45 8556380159) (any_of HT_.out (by kernel_rfl)) ?_
            refine one_ (i := 25) (N := some 132) (Pt.bm 45 8589934591) rfl rfl (one_of HT_.out (by kernel_rfl)) (by decide) (fun K hK => ?_)
            refine goes_ Try.func113 (by kernel_rfl) rfl #[.bool false] (by rfl) rfl rfl (by (try simp only [List.map_toArray, List.map_cons, List.map_nil]); first | done | rfl | (simp only [List.length_drop, List.length_take]; rfl)) ?_
            with_reducible refine (spec_l1Truth.calls false t244 _ A77.out).mono ?_
            rintro e w' ⟨rfl, ⟨nd, rfl⟩⟩
            refine ⟨_, rfl, ?_⟩
            refine hK.out _ _ ⟨((HB.out.cell (World.block_lt_of_cell? w _ hw212_0)).trans hw212_0), ((HB.out.cell (World.block_lt_of_cell? w _ hw213_0)).trans hw213_0), ((HB.out.cell (World.block_lt_of_cell? w _ hw245_0)).trans hw245_0), ((HB.out.cell (World.block_lt_of_cell? w _ hw246_0)).trans hw246_0), ((HB.out.cell (World.block_lt_of_cell? w _ hw247_0)).trans hw247_0), ((HB.out.cell (World.block_lt_of_cell? w _ hw248_0)).trans hw248_0)⟩ (fun hHeld => ?_)
            clear hK K
            refine norm_ (a' := ?_) ?_ ?_
            rotate_left
            ·show Act.put _ (some 132) _ = _
             simp only [Act.put, List.setIfInBounds_toArray, List.set_cons_zero, List.set_cons_succ, i64_w, i32_w]
             rfl
            refine Pt.pu 33 (some 140) (Pt.bm 45 17179869183) (any_of HT_.out (by kernel_rfl)) ?_
            refine Pt.pu 34 (some 141) (Pt.bm 45 34359738367) (any_of HT_.out (by kernel_rfl)) ?_
            refine Pt.pu 35 (some 142) (Pt.bm 45 68719476735) (any_of HT_.out (by kernel_rfl)) ?_
            refine Pt.pu 37 (some 144) (Pt.bm 45 206158430207) (any_of HT_.out (by kernel_rfl)) ?_
            refine Pt.pu 38 (some 145) (Pt.bm 45 481036337151) (any_of HT_.out (by kernel_rfl)) ?_
            refine Pt.tk 36 (some 143) (Pt.bm 45 549755813887) rfl rfl (take_ofW HT_.out HW_.out (by kernel_rfl)) hHeld (Or.inl ⟨by rfl, by rintro w' ⟨s0, s1, s2, s3, s4, s5⟩; go_simp; with_reducible rfl⟩) ?_
            refine Pt.tk 39 (some 146) (Pt.bm 45 1099511627775) rfl rfl (take_ofW HT_.out HW_.out (by kernel_rfl)) hHeld (Or.inl ⟨by rfl, by rintro w' ⟨s0, s1, s2, s3, s4, s5⟩; go_simp; with_reducible rfl⟩) ?_
            refine Pt.pu 40 (some 147) (Pt.bm 45 2199023255551) (any_of HT_.out (by kernel_rfl)) ?_
            refine Pt.pu 41 (some 148) (Pt.bm 45 4398046511103) (any_of HT_.out (by kernel_rfl)) ?_
            refine one_ (i := 42) (N := some 149) (Pt.bm 45 8796093022207) rfl rfl (one_of HT_.out (by kernel_rfl)) (by decide) (fun K hK => ?_)
            refine goes_ Try.func113 (by kernel_rfl) rfl #[.bool (decide ((rd l2 0) ≤ (rd l1 1)))] (by rfl) rfl rfl (by (try simp only [List.map_toArray, List.map_cons, List.map_nil]); first | done | rfl | (simp only [List.length_drop, List.length_take]; rfl)) ?_
            with_reducible refine (spec_l1Truth.calls (decide ((rd l2 0) ≤ (rd l1 1))) t249 _ A81.out).mono ?_
            rintro e w' ⟨rfl, ⟨nd, rfl⟩⟩
            refine ⟨_, rfl, ?_⟩
            refine hK.out _ _ ⟨((HB.out.cell (World.block_lt_of_cell? w _ hw212_0)).trans hw212_0), ((HB.out.cell (World.block_lt_of_cell? w _ hw213_0)).trans hw213_0), ((HB.out.cell (World.block_lt_of_cell? w _ hw245_0)).trans hw245_0), ((HB.out.cell (World.block_lt_of_cell? w _ hw246_0)).trans hw246_0), ((HB.out.cell (World.block_lt_of_cell? w _ hw247_0)).trans hw247_0), ((HB.out.cell (World.block_lt_of_cell? w _ hw248_0)).trans hw248_0)⟩ (fun hHeld => ?_)
            clear hK K
            refine norm_ (a' := ?_) ?_ ?_
            rotate_left
            ·show Act.put _ (some 149) _ = _
             simp only [Act.put, List.setIfInBounds_toArray, List.set_cons_zero, List.set_cons_succ, i64_w, i32_w]
             rfl
            refine one_ (i := 43) (N := some 150) (Pt.bm 45 17592186044415) rfl rfl (one_of HT_.out (by kernel_rfl)) (by decide) (fun K hK => ?_)
            refine Kd.R_lit_step (Kd.int .i64) _ 3 ?hg (N := 150) ?hd (xs := ([t244, t249] : List Int)) (inner := [.int .i64 t244, .int .i64 t249]) (ok := fun _ => True) (okp := fun _ => True) ?hr ?hp (fun _ hk => hk) trivial (Below.refl _ _) (Nat.le_refl _) (by simp) ?_; (case hd => rfl); (case hg => rfl); (case hr => first | (go_simp; done) | (go_simp; rfl)); (case hp => exact (Reps.one (show Kd.M (Kd.int .i64) _ _ _ t244 [.int .i64 t244] from rfl) (Reps.one (show Kd.M (Kd.int .i64) _ _ _ t249 [.int .i64 t249] from rfl) (Reps.none _ _))))
            intro v251 w83 ho84 hb hg_ hnew_
            clear hg_ hnew_
            (first | rw [← Ny250.out] at ho84 | (simp only [Int.reduceToNat] at ho84; rw [← Ny250.out] at ho84))
            have n0_ := Aside0.mk (Kd.R_lower ho84 (below_size (by repeat (first | (with_reducible first | exact HB.out | apply bwA | apply bwN | apply bwD) | exact HB.out))))
            have n1_ := Aside0.mk (below_step (by repeat (first | (with_reducible first | exact HB.out | apply bwA | apply bwN | apply bwD) | exact HB.out)) hb)
            clear HB
            have HO252 := n0_
            have HB := n1_
            clear n0_ n1_
            clear hb ho84
            refine hK.out _ _ ⟨((HB.out.cell (World.block_lt_of_cell? w _ hw212_0)).trans hw212_0), ((HB.out.cell (World.block_lt_of_cell? w _ hw213_0)).trans hw213_0), ((HB.out.cell (World.block_lt_of_cell? w _ hw245_0)).trans hw245_0), ((HB.out.cell (World.block_lt_of_cell? w _ hw246_0)).trans hw246_0), ((HB.out.cell (World.block_lt_of_cell? w _ hw247_0)).trans hw247_0), ((HB.out.cell (World.block_lt_of_cell? w _ hw248_0)).trans hw248_0)⟩ (fun hHeld => ?_)
            clear hK K
            refine norm_ (a' := ?_) ?_ ?_
            rotate_left
            ·show Act.put _ (some 150) _ = _
             simp only [Act.put, List.setIfInBounds_toArray, List.set_cons_zero, List.set_cons_succ, i64_w, i32_w]
             rfl
            refine Pt.pu 44 (some 6) (Pt.bm 45 35184372088831) (any_of HT_.out (by kernel_rfl)) ?_
            refine done_ (done_of HT_.out (by kernel_rfl)) ?_
            try go_wp2
            go_ret
            exact ⟨_, by first | rfl | (simp [errW_none, errW_some] <;> rfl) | (simp [*, errW_none, errW_some] <;> rfl), by (with_reducible repeat (first | apply Kd.R_alloc | apply Kd.R_drewN | apply Kd.R_drew)); exact HO252.out, by repeat (first | (with_reducible first | exact HB.out | apply bwA | apply bwN | apply bwD) | exact HB.out)⟩
           ·rw [if_neg c80] at H
            exact absurd H (by simp)
          ·rw [if_neg c79] at H
           have c79b0 : decide ((rd l1 0) ≤ (rd l2 1)) = false := decide_eq_false c79
           clear c79
           replace H := Option.bind_eq_some_iff.mp H
           obtain ⟨t253, A850, H⟩ := H
           replace H : (some (([t244, t253] : List Int))) = some r := H
           have A85 := Aside0.mk A850
           clear A850
           obtain ⟨y254, hy254⟩ : ∃ y_ : List Int, y_ = (([t244, t253] : List Int)) := ⟨_, rfl⟩
           replace H : (some y254) = some r := by first | (rw [hy254]; with_reducible exact H) | (have H2_ := (Option.bind_some _ _).symm.trans H; rw [hy254]; with_reducible exact H2_) | (have H2_ := (Option.bind_some _ _).symm.trans H; with_reducible exact H2_) | with_reducible exact H | (rw [hy254]; exact H) | exact H
           have Ny254 := Aside0.mk hy254
           clear hy254
           obtain rfl := Option.some.inj H
           go_enter Try.func74, Try.ntmps74
           try go_wp2
           have n0_ := Aside0.mk (below_drew1 HB.out)
           clear HB
           have HB := n0_
           clear n0_
           have p212 : 0 ≤ (0 : Int) := (by omega)
           have q212 : 0 < (l1.length : Int) := of_decide_eq_true (by first | (with_reducible assumption) | assumption)
           obtain ⟨ad212, e212, hx212_0⟩ := Kd.at_int HR1.out 0 p212 q212
           have hw212_0 := hx212_0
           (try rw [show ((0 : Int)).toNat = 0 from rfl] at hw212_0)
           (try rw [show 0 * 1 = 0 from rfl] at hw212_0)
           (try rw [Addr.add_zero'] at hw212_0)
           cases e212
           have qi212 : (0 < l1.length) = True := eq_true (by omega)
           (try rw [show ((0 : Int)).toNat = 0 from rfl] at hx212_0)
           (try rw [Addr.add_zero'] at hx212_0)
           try replace hx212_0 := (HB.out.cell (World.block_lt_of_cell? w _ hx212_0)).trans hx212_0
           replace p212 := eq_true p212
           replace q212 := eq_true q212
           have p213 : 0 ≤ (1 : Int) := (by omega)
           have q213 : 1 < (l1.length : Int) := of_decide_eq_true (by first | (with_reducible assumption) | assumption)
           obtain ⟨ad213, e213, hx213_0⟩ := Kd.at_int HR1.out 1 p213 q213
           have hw213_0 := hx213_0
           (try rw [show ((1 : Int)).toNat = 1 from rfl] at hw213_0)
           (try rw [show 1 * 1 = 1 from rfl] at hw213_0)
           (try simp only [Nat.reduceMul, Nat.reduceEqDiff, Go.Addr.add, ↓reduceIte] at hw213_0)
           obtain rfl : ad212 = ad213 := (by injection e213)
           (try simp only [show (1 : Int).toNat = 1 from rfl, Nat.reduceMul, Nat.reduceEqDiff, Go.Addr.add, ↓reduceIte] at hx213_0)
           have qi213 : (1 < l1.length) = True := eq_true (by omega)
           (try rw [show ((1 : Int)).toNat = 1 from rfl] at hx213_0)
           try replace hx213_0 := (HB.out.cell (World.block_lt_of_cell? w _ hx213_0)).trans hx213_0
           replace p213 := eq_true p213
           replace q213 := eq_true q213
           have p245 : 0 ≤ (0 : Int) := (by omega)
           have q245 : 0 < (l1.length : Int) := of_decide_eq_true (by first | (with_reducible assumption) | assumption)
           obtain ⟨ad245, e245, hx245_0⟩ := Kd.at_int HR1.out 0 p245 q245
           have hw245_0 := hx245_0
           (try rw [show ((0 : Int)).toNat = 0 from rfl] at hw245_0)
           (try rw [show 0 * 1 = 0 from rfl] at hw245_0)
           (try rw [Addr.add_zero'] at hw245_0)
           obtain rfl : ad212 = ad245 := (by injection e245)
           have qi245 : (0 < l1.length) = True := eq_true (by omega)
           (try rw [show ((0 : Int)).toNat = 0 from rfl] at hx245_0)
           (try rw [Addr.add_zero'] at hx245_0)
           try replace hx245_0 := (HB.out.cell (World.block_lt_of_cell? w _ hx245_0)).trans hx245_0
           replace p245 := eq_true p245
           replace q245 := eq_true q245
           have p246 : 0 ≤ (1 : Int) := (by omega)
           have q246 : 1 < (l2.length : Int) := of_decide_eq_true (by first | (with_reducible assumption) | assumption)
           obtain ⟨ad246, e246, hx246_0⟩ := Kd.at_int HR2.out 1 p246 q246
           have hw246_0 := hx246_0
           (try rw [show ((1 : Int)).toNat = 1 from rfl] at hw246_0)
           (try rw [show 1 * 1 = 1 from rfl] at hw246_0)
           (try simp only [Nat.reduceMul, Nat.reduceEqDiff, Go.Addr.add, ↓reduceIte] at hw246_0)
           cases e246
           (try simp only [show (1 : Int).toNat = 1 from rfl, Nat.reduceMul, Nat.reduceEqDiff, Go.Addr.add, ↓reduceIte] at hx246_0)
           have qi246 : (1 < l2.length) = True := eq_true (by omega)
           (try rw [show ((1 : Int)).toNat = 1 from rfl] at hx246_0)
           try replace hx246_0 := (HB.out.cell (World.block_lt_of_cell? w _ hx246_0)).trans hx246_0
           replace p246 := eq_true p246
           replace q246 := eq_true q246
           refine start_ (n := 45) (S := fun w' => w'.cell? ad212 = some (.int .i64 (rd l1 0)) ∧ w'.cell? ⟨ad212.block, ad212.off + 1, none⟩ = some (.int .i64 (rd l1 1)) ∧ w'.cell? ad212 = some (.int .i64 (rd l1 0)) ∧ w'.cell? ⟨ad246.block, ad246.off + 1, none⟩ = some (.int .i64 (rd l2 1))) (ds := []) (Pt.bm 45 0) (by kernel_rfl) rfl rfl ⟨((HB.out.cell (World.block_lt_of_cell? w _ hw212_0)).trans hw212_0), ((HB.out.cell (World.block_lt_of_cell? w _ hw213_0)).trans hw213_0), ((HB.out.cell (World.block_lt_of_cell? w _ hw245_0)).trans hw245_0), ((HB.out.cell (World.block_lt_of_cell? w _ hw246_0)).trans hw246_0)⟩ (fun hHeld => ?_); refine with_tabW spec_l1Between.tab11 spec_l1Between.bits11 (fun HT_ HW_ => ?_)
           generalize w.drew = w86 at HB hx212_0 hx213_0 hx245_0 hx246_0 hHeld ⊢
           refine Pt.pu 0 (some 107) (Pt.bm 45 1) (any_of HT_.out (by kernel_rfl)) ?_
           refine Pt.pu 1 (some 108) (Pt.bm 45 3) (any_of HT_.out (by kernel_rfl)) ?_
           refine Pt.pu 3 (some 110) (Pt.bm 45 11) (any_of HT_.out (by kernel_rfl)) ?_
           refine Pt.pu 4 (some 111) (Pt.bm 45 27) (any_of HT_.out (by kernel_rfl)) ?_
           refine Pt.pu 26 (some 133) (Pt.bm 45 67108891) (any_of HT_.out (by kernel_rfl)) ?_
           refine Pt.pu 27 (some 134) (Pt.bm 45 201326619) (any_of HT_.out (by kernel_rfl)) ?_
           refine Pt.pu 29 (some 136) (Pt.bm 45 738197531) (any_of HT_.out (by kernel_rfl)) ?_
           refine Pt.pu 30 (some 137) (Pt.bm 45 1811939355) (any_of HT_.out (by kernel_rfl)) ?_
           refine Pt.tk 2 (some 109) (Pt.bm 45 1811939359) rfl rfl (take_ofW HT_.out HW_.out (by kernel_rfl)) hHeld (Or.inl ⟨by rfl, by rintro w' ⟨s0, s1, s2, s3⟩; go_simp; with_reducible rfl⟩) ?_
           refine Pt.tk 5 (some 112) (Pt.bm 45 1811939391) rfl rfl (take_ofW HT_.out HW_.out (by kernel_rfl)) hHeld (Or.inl ⟨by rfl, by rintro w' ⟨s0, s1, s2, s3⟩; go_simp; with_reducible rfl⟩) ?_
           refine Pt.pu 6 (some 113) (Pt.bm 45 1811939455) (any_of HT_.out (by kernel_rfl)) ?_
           refine Pt.pu 7 (some 114) (Pt.bm 45 1811939583) (any_of HT_.out (by kernel_rfl)) ?_
           refine Pt.pn 8 (some 115) (Pt.bm 45 1811939839) (any_of HT_.out (by kernel_rfl)) ?_
           refine Pt.pn 9 (some 116) (Pt.bm 45 1811940351) (any_of HT_.out (by kernel_rfl)) ?_
           refine Pt.pn 10 (some 117) (Pt.bm 45 1811941375) (any_of HT_.out (by kernel_rfl)) ?_
           refine Pt.pn 11 (some 118) (Pt.bm 45 1811943423) (any_of HT_.out (by kernel_rfl)) ?_
           refine Pt.pn 12 (some 119) (Pt.bm 45 1811947519) (any_of HT_.out (by kernel_rfl)) ?_
           refine Pt.pn 13 (some 120) (Pt.bm 45 1811955711) (any_of HT_.out (by kernel_rfl)) ?_
           refine Pt.pn 14 (some 121) (Pt.bm 45 1811972095) (any_of HT_.out (by kernel_rfl)) ?_
           refine Pt.pu 15 (some 122) (Pt.bm 45 1812004863) (any_of HT_.out (by kernel_rfl)) ?_
           refine Pt.pu 16 (some 123) (Pt.bm 45 1812070399) (any_of HT_.out (by kernel_rfl)) ?_
           refine Pt.pn 17 (some 124) (Pt.bm 45 1812201471) (any_of HT_.out (by kernel_rfl)) ?_
           refine Pt.pn 18 (some 125) (Pt.bm 45 1812463615) (any_of HT_.out (by kernel_rfl)) ?_
           refine Pt.pn 19 (some 126) (Pt.bm 45 1812987903) (any_of HT_.out (by kernel_rfl)) ?_
           refine Pt.pn 20 (some 127) (Pt.bm 45 1814036479) (any_of HT_.out (by kernel_rfl)) ?_
           refine Pt.pn 21 (some 128) (Pt.bm 45 1816133631) (any_of HT_.out (by kernel_rfl)) ?_
           refine Pt.pn 22 (some 129) (Pt.bm 45 1820327935) (any_of HT_.out (by kernel_rfl)) ?_
           refine Pt.pn 23 (some 130) (Pt.bm 45 1828716543) (any_of HT_.out (by kernel_rfl)) ?_
           refine Pt.pu 24 (some 131) (Pt.bm 45 1845493759) (any_of HT_.out (by kernel_rfl)) ?_
           refine Pt.tk 28 (some 135) (Pt.bm 45 2113929215) rfl rfl (take_ofW HT_.out HW_.out (by kernel_rfl)) hHeld (Or.inl ⟨by rfl, by rintro w' ⟨s0, s1, s2, s3⟩; go_simp; with_reducible rfl⟩) ?_
           refine Pt.tk 31 (some 138) (Pt.bm 45 4261412863) rfl rfl (take_ofW HT_.out HW_.out (by kernel_rfl)) hHeld (Or.inl ⟨by rfl, by rintro w' ⟨s0, s1, s2, s3⟩; go_simp; with_reducible rfl⟩) ?_
           refine Pt.pu 32 (some 139) (Pt.bm 45 8556380159) (any_of HT_.out (by kernel_rfl)) ?_
           refine one_ (i := 25) (N := some 132) (Pt.bm 45 8589934591) rfl rfl (one_of HT_.out (by kernel_rfl)) (by decide) (fun K hK => ?_)
           refine goes_ Try.func113 (by kernel_rfl) rfl #[.bool false] (by rfl) rfl rfl (by (try simp only [List.map_toArray, List.map_cons, List.map_nil]); first | done | rfl | (simp only [List.length_drop, List.length_take]; rfl)) ?_
           with_reducible refine (spec_l1Truth.calls false t244 _ A77.out).mono ?_
           rintro e w' ⟨rfl, ⟨nd, rfl⟩⟩
           refine ⟨_, rfl, ?_⟩
           refine hK.out _ _ ⟨((HB.out.cell (World.block_lt_of_cell? w _ hw212_0)).trans hw212_0), ((HB.out.cell (World.block_lt_of_cell? w _ hw213_0)).trans hw213_0), ((HB.out.cell (World.block_lt_of_cell? w _ hw245_0)).trans hw245_0), ((HB.out.cell (World.block_lt_of_cell? w _ hw246_0)).trans hw246_0)⟩ (fun hHeld => ?_)
           clear hK K
           refine norm_ (a' := ?_) ?_ ?_
           rotate_left
           ·show Act.put _ (some 132) _ = _
            simp only [Act.put, List.setIfInBounds_toArray, List.set_cons_zero, List.set_cons_succ, i64_w, i32_w]
            rfl
           refine Pt.pu 33 (some 140) (Pt.bm 45 17179869183) (any_of HT_.out (by kernel_rfl)) ?_
           refine Pt.pn 34 (some 141) (Pt.bm 45 34359738367) (any_of HT_.out (by kernel_rfl)) ?_
           refine Pt.pn 35 (some 142) (Pt.bm 45 68719476735) (any_of HT_.out (by kernel_rfl)) ?_
           refine Pt.pn 36 (some 143) (Pt.bm 45 137438953471) (any_of HT_.out (by kernel_rfl)) ?_
           refine Pt.pn 37 (some 144) (Pt.bm 45 274877906943) (any_of HT_.out (by kernel_rfl)) ?_
           refine Pt.pn 38 (some 145) (Pt.bm 45 549755813887) (any_of HT_.out (by kernel_rfl)) ?_
           refine Pt.pn 39 (some 146) (Pt.bm 45 1099511627775) (any_of HT_.out (by kernel_rfl)) ?_
           refine Pt.pn 40 (some 147) (Pt.bm 45 2199023255551) (any_of HT_.out (by kernel_rfl)) ?_
           refine Pt.pu 41 (some 148) (Pt.bm 45 4398046511103) (any_of HT_.out (by kernel_rfl)) ?_
           refine one_ (i := 42) (N := some 149) (Pt.bm 45 8796093022207) rfl rfl (one_of HT_.out (by kernel_rfl)) (by decide) (fun K hK => ?_)
           refine goes_ Try.func113 (by kernel_rfl) rfl #[.bool false] (by rfl) rfl rfl (by (try simp only [List.map_toArray, List.map_cons, List.map_nil]); first | done | rfl | (simp only [List.length_drop, List.length_take]; rfl)) ?_
           with_reducible refine (spec_l1Truth.calls false t253 _ A85.out).mono ?_
           rintro e w' ⟨rfl, ⟨nd, rfl⟩⟩
           refine ⟨_, rfl, ?_⟩
           refine hK.out _ _ ⟨((HB.out.cell (World.block_lt_of_cell? w _ hw212_0)).trans hw212_0), ((HB.out.cell (World.block_lt_of_cell? w _ hw213_0)).trans hw213_0), ((HB.out.cell (World.block_lt_of_cell? w _ hw245_0)).trans hw245_0), ((HB.out.cell (World.block_lt_of_cell? w _ hw246_0)).trans hw246_0)⟩ (fun hHeld => ?_)
           clear hK K
           refine norm_ (a' := ?_) ?_ ?_
           rotate_left
           ·show Act.put _ (some 149) _ = _
            simp only [Act.put, List.setIfInBounds_toArray, List.set_cons_zero, List.set_cons_succ, i64_w, i32_w]
            rfl
           refine one_ (i := 43) (N := some 150) (Pt.bm 45 17592186044415) rfl rfl (one_of HT_.out (by kernel_rfl)) (by decide) (fun K hK => ?_)
           refine Kd.R_lit_step (Kd.int .i64) _ 3 ?hg (N := 150) ?hd (xs := ([t244, t253] : List Int)) (inner := [.int .i64 t244, .int .i64 t253]) (ok := fun _ => True) (okp := fun _ => True) ?hr ?hp (fun _ hk => hk) trivial (Below.refl _ _) (Nat.le_refl _) (by simp) ?_; (case hd => rfl); (case hg => rfl); (case hr => first | (go_simp; done) | (go_simp; rfl)); (case hp => exact (Reps.one (show Kd.M (Kd.int .i64) _ _ _ t244 [.int .i64 t244] from rfl) (Reps.one (show Kd.M (Kd.int .i64) _ _ _ t253 [.int .i64 t253] from rfl) (Reps.none _ _))))
           intro v255 w87 ho88 hb hg_ hnew_
           clear hg_ hnew_
           (first | rw [← Ny254.out] at ho88 | (simp only [Int.reduceToNat] at ho88; rw [← Ny254.out] at ho88))
           have n0_ := Aside0.mk (Kd.R_lower ho88 (below_size (by repeat (first | (with_reducible first | exact HB.out | apply bwA | apply bwN | apply bwD) | exact HB.out))))
           have n1_ := Aside0.mk (below_step (by repeat (first | (with_reducible first | exact HB.out | apply bwA | apply bwN | apply bwD) | exact HB.out)) hb)
           clear HB
           have HO256 := n0_
           have HB := n1_
           clear n0_ n1_
           clear hb ho88
           refine hK.out _ _ ⟨((HB.out.cell (World.block_lt_of_cell? w _ hw212_0)).trans hw212_0), ((HB.out.cell (World.block_lt_of_cell? w _ hw213_0)).trans hw213_0), ((HB.out.cell (World.block_lt_of_cell? w _ hw245_0)).trans hw245_0), ((HB.out.cell (World.block_lt_of_cell? w _ hw246_0)).trans hw246_0)⟩ (fun hHeld => ?_)
           clear hK K
           refine norm_ (a' := ?_) ?_ ?_
           rotate_left
           ·show Act.put _ (some 150) _ = _
            simp only [Act.put, List.setIfInBounds_toArray, List.set_cons_zero, List.set_cons_succ, i64_w, i32_w]
            rfl
           refine Pt.pu 44 (some 6) (Pt.bm 45 35184372088831) (any_of HT_.out (by kernel_rfl)) ?_
           refine done_ (done_of HT_.out (by kernel_rfl)) ?_
           try go_wp2
           go_ret
           exact ⟨_, by first | rfl | (simp [errW_none, errW_some] <;> rfl) | (simp [*, errW_none, errW_some] <;> rfl), by (with_reducible repeat (first | apply Kd.R_alloc | apply Kd.R_drewN | apply Kd.R_drew)); exact HO256.out, by repeat (first | (with_reducible first | exact HB.out | apply bwA | apply bwN | apply bwD) | exact HB.out)⟩
         ·rw [if_neg c78] at H
          exact absurd H (by simp)
       ·rw [if_neg c52] at H
        exact absurd H (by simp)
      ·rw [if_neg c51] at H
       exact absurd H (by simp)
     ·rw [if_neg c50] at H
      have c50b0 : (a0 == 6) = false := beq_eq_false_iff_ne.mpr c50
      have c50b1 : (a0 != 6) = true := bne_iff_ne.mpr c50
      by_cases c89 : a0 = 7
      ·rw [if_pos c89] at H
       have c89b0 : (a0 == 7) = true := beq_iff_eq.mpr c89
       have c89b1 : (a0 != 7) = false := bne_eq_false_iff_eq.mpr c89
       clear c89
       by_cases c90 : 1 < (l1.length : Int)
       ·rw [if_pos c90] at H
        have c90b0 : decide (1 < (l1.length : Int)) = true := decide_eq_true c90
        have c90b1 : decide (1 < l1.length) = true := decide_eq_true (by omega)
        clear c90
        by_cases c91 : 0 < (l1.length : Int)
        ·rw [if_pos c91] at H
         have c91b0 : decide (0 < (l1.length : Int)) = true := decide_eq_true c91
         have c91b1 : decide (0 < l1.length) = true := decide_eq_true (by omega)
         clear c91
         obtain ⟨y259, hy259⟩ : ∃ y_ : List Int, y_ = (([wrap64 (1 - (rd l1 1)), wrap64 (1 - (rd l1 0))] : List Int)) := ⟨_, rfl⟩
         replace H : (some y259) = some r := by first | (rw [hy259]; with_reducible exact H) | (have H2_ := (Option.bind_some _ _).symm.trans H; rw [hy259]; with_reducible exact H2_) | (have H2_ := (Option.bind_some _ _).symm.trans H; with_reducible exact H2_) | with_reducible exact H | (rw [hy259]; exact H) | exact H
         have Ny259 := Aside0.mk hy259
         clear hy259
         obtain rfl := Option.some.inj H
         go_enter Try.func74, Try.ntmps74
         try go_wp2
         have n0_ := Aside0.mk (below_drew1 HB.out)
         clear HB
         have HB := n0_
         clear n0_
         have p257 : 0 ≤ (1 : Int) := (by omega)
         have q257 : 1 < (l1.length : Int) := of_decide_eq_true (by first | (with_reducible assumption) | assumption)
         obtain ⟨ad257, e257, hx257_0⟩ := Kd.at_int HR1.out 1 p257 q257
         have hw257_0 := hx257_0
         (try rw [show ((1 : Int)).toNat = 1 from rfl] at hw257_0)
         (try rw [show 1 * 1 = 1 from rfl] at hw257_0)
         (try simp only [Nat.reduceMul, Nat.reduceEqDiff, Go.Addr.add, ↓reduceIte] at hw257_0)
         cases e257
         (try simp only [show (1 : Int).toNat = 1 from rfl, Nat.reduceMul, Nat.reduceEqDiff, Go.Addr.add, ↓reduceIte] at hx257_0)
         have qi257 : (1 < l1.length) = True := eq_true (by omega)
         (try rw [show ((1 : Int)).toNat = 1 from rfl] at hx257_0)
         try replace hx257_0 := (HB.out.cell (World.block_lt_of_cell? w _ hx257_0)).trans hx257_0
         replace p257 := eq_true p257
         replace q257 := eq_true q257
         have p258 : 0 ≤ (0 : Int) := (by omega)
         have q258 : 0 < (l1.length : Int) := of_decide_eq_true (by first | (with_reducible assumption) | assumption)
         obtain ⟨ad258, e258, hx258_0⟩ := Kd.at_int HR1.out 0 p258 q258
         have hw258_0 := hx258_0
         (try rw [show ((0 : Int)).toNat = 0 from rfl] at hw258_0)
         (try rw [show 0 * 1 = 0 from rfl] at hw258_0)
         (try rw [Addr.add_zero'] at hw258_0)
         obtain rfl : ad257 = ad258 := (by injection e258)
         have qi258 : (0 < l1.length) = True := eq_true (by omega)
         (try rw [show ((0 : Int)).toNat = 0 from rfl] at hx258_0)
         (try rw [Addr.add_zero'] at hx258_0)
         try replace hx258_0 := (HB.out.cell (World.block_lt_of_cell? w _ hx258_0)).trans hx258_0
         replace p258 := eq_true p258
         replace q258 := eq_true q258
         refine start_ (n := 10) (S := fun w' => w'.cell? ⟨ad257.block, ad257.off + 1, none⟩ = some (.int .i64 (rd l1 1)) ∧ w'.cell? ad257 = some (.int .i64 (rd l1 0))) (ds := []) (Pt.bm 10 0) (by kernel_rfl) rfl rfl ⟨((HB.out.cell (World.block_lt_of_cell? w _ hw257_0)).trans hw257_0), ((HB.out.cell (World.block_lt_of_cell? w _ hw258_0)).trans hw258_0)⟩ (fun hHeld => ?_); refine with_tabW spec_l1Between.tab13 spec_l1Between.bits13 (fun HT_ HW_ => ?_)
         generalize w.drew = w92 at HB hx257_0 hx258_0 hHeld ⊢
         refine Pt.pu 0 (some 153) (Pt.bm 10 1) (any_of HT_.out (by kernel_rfl)) ?_
         refine Pt.pu 1 (some 154) (Pt.bm 10 3) (any_of HT_.out (by kernel_rfl)) ?_
         refine Pt.pu 4 (some 157) (Pt.bm 10 19) (any_of HT_.out (by kernel_rfl)) ?_
         refine Pt.pu 5 (some 158) (Pt.bm 10 51) (any_of HT_.out (by kernel_rfl)) ?_
         refine Pt.tk 2 (some 155) (Pt.bm 10 55) rfl rfl (take_ofW HT_.out HW_.out (by kernel_rfl)) hHeld (Or.inl ⟨by rfl, by rintro w' ⟨s0, s1⟩; go_simp; with_reducible rfl⟩) ?_
         refine Pt.pu 3 (some 156) (Pt.bm 10 63) (any_of HT_.out (by kernel_rfl)) ?_
         refine Pt.tk 6 (some 159) (Pt.bm 10 127) rfl rfl (take_ofW HT_.out HW_.out (by kernel_rfl)) hHeld (Or.inl ⟨by rfl, by rintro w' ⟨s0, s1⟩; go_simp; with_reducible rfl⟩) ?_
         refine Pt.pu 7 (some 160) (Pt.bm 10 255) (any_of HT_.out (by kernel_rfl)) ?_
         refine one_ (i := 8) (N := some 161) (Pt.bm 10 511) rfl rfl (one_of HT_.out (by kernel_rfl)) (by decide) (fun K hK => ?_)
         refine Kd.R_lit_step (Kd.int .i64) _ 3 ?hg (N := 161) ?hd (xs := ([wrap64 (1 - (rd l1 1)), wrap64 (1 - (rd l1 0))] : List Int)) (inner := [.int .i64 (wrap64 (1 - (rd l1 1))), .int .i64 (wrap64 (1 - (rd l1 0)))]) (ok := fun _ => True) (okp := fun _ => True) ?hr ?hp (fun _ hk => hk) trivial (Below.refl _ _) (Nat.le_refl _) (by simp) ?_; (case hd => rfl); (case hg => rfl); (case hr => first | (go_simp; done) | (go_simp; rfl)); (case hp => exact (Reps.one (show Kd.M (Kd.int .i64) _ _ _ (wrap64 (1 - (rd l1 1))) [.int .i64 (wrap64 (1 - (rd l1 1)))] from rfl) (Reps.one (show Kd.M (Kd.int .i64) _ _ _ (wrap64 (1 - (rd l1 0))) [.int .i64 (wrap64 (1 - (rd l1 0)))] from rfl) (Reps.none _ _))))
         intro v260 w93 ho94 hb hg_ hnew_
         clear hg_ hnew_
         (first | rw [← Ny259.out] at ho94 | (simp only [Int.reduceToNat] at ho94; rw [← Ny259.out] at ho94))
         have n0_ := Aside0.mk (Kd.R_lower ho94 (below_size (by repeat (first | (with_reducible first | exact HB.out | apply bwA | apply bwN | apply bwD) | exact HB.out))))
         have n1_ := Aside0.mk (below_step (by repeat (first | (with_reducible first | exact HB.out | apply bwA | apply bwN | apply bwD) | exact HB.out)) hb)
         clear HB
         have HO261 := n0_
         have HB := n1_
         clear n0_ n1_
         clear hb ho94
         refine hK.out _ _ ⟨((HB.out.cell (World.block_lt_of_cell? w _ hw257_0)).trans hw257_0), ((HB.out.cell (World.block_lt_of_cell? w _ hw258_0)).trans hw258_0)⟩ (fun hHeld => ?_)
         clear hK K
         refine norm_ (a' := ?_) ?_ ?_
         rotate_left
         ·show Act.put _ (some 161) _ = _
          simp only [Act.put, List.setIfInBounds_toArray, List.set_cons_zero, List.set_cons_succ, i64_w, i32_w]
          rfl
         refine Pt.pu 9 (some 6) (Pt.bm 10 1023) (any_of HT_.out (by kernel_rfl)) ?_
         refine done_ (done_of HT_.out (by kernel_rfl)) ?_
         try go_wp2
         go_ret
         exact ⟨_, by first | rfl | (simp [errW_none, errW_some] <;> rfl) | (simp [*, errW_none, errW_some] <;> rfl), by (with_reducible repeat (first | apply Kd.R_alloc | apply Kd.R_drewN | apply Kd.R_drew)); exact HO261.out, by repeat (first | (with_reducible first | exact HB.out | apply bwA | apply bwN | apply bwD) | exact HB.out)⟩
        ·rw [if_neg c91] at H
         exact absurd H (by simp)
       ·rw [if_neg c90] at H
        exact absurd H (by simp)
      ·rw [if_neg c89] at H
       have c89b0 : (a0 == 7) = false := beq_eq_false_iff_ne.mpr c89
       have c89b1 : (a0 != 7) = true := bne_iff_ne.mpr c89
       by_cases c95 : 0 < (l1.length : Int)
       ·rw [if_pos c95] at H
        have c95b0 : decide (0 < (l1.length : Int)) = true := decide_eq_true c95
        have c95b1 : decide (0 < l1.length) = true := decide_eq_true (by omega)
        clear c95
        by_cases c96 : 0 < (l2.length : Int)
        ·rw [if_pos c96] at H
         have c96b0 : decide (0 < (l2.length : Int)) = true := decide_eq_true c96
         have c96b1 : decide (0 < l2.length) = true := decide_eq_true (by omega)
         clear c96
         replace H := Option.bind_eq_some_iff.mp H
         obtain ⟨t264, A970, H⟩ := H
         replace H : (if 1 < (l1.length : Int) then (if 1 < (l2.length : Int) then ((spec_l1Do.f a0 (rd l1 1) (rd l2 1)).bind fun t267 => (some (([t264, t267] : List Int)))) else (none)) else (none)) = some r := H
         have A97 := Aside0.mk A970
         clear A970
         by_cases c98 : 1 < (l1.length : Int)
         ·rw [if_pos c98] at H
          have c98b0 : decide (1 < (l1.length : Int)) = true := decide_eq_true c98
          have c98b1 : decide (1 < l1.length) = true := decide_eq_true (by omega)
          clear c98
          by_cases c99 : 1 < (l2.length : Int)
          ·rw [if_pos c99] at H
           have c99b0 : decide (1 < (l2.length : Int)) = true := decide_eq_true c99
           have c99b1 : decide (1 < l2.length) = true := decide_eq_true (by omega)
           clear c99
           replace H := Option.bind_eq_some_iff.mp H
           obtain ⟨t267, A1000, H⟩ := H
           replace H : (some (([t264, t267] : List Int))) = some r := H
           have A100 := Aside0.mk A1000
           clear A1000
           obtain ⟨y268, hy268⟩ : ∃ y_ : List Int, y_ = (([t264, t267] : List Int)) := ⟨_, rfl⟩
           replace H : (some y268) = some r := by first | (rw [hy268]; with_reducible exact H) | (have H2_ := (Option.bind_some _ _).symm.trans H; rw [hy268]; with_reducible exact H2_) | (have H2_ := (Option.bind_some _ _).symm.trans H; with_reducible exact H2_) | with_reducible exact H | (rw [hy268]; exact H) | exact H
           have Ny268 := Aside0.mk hy268
           clear hy268
           obtain rfl := Option.some.inj H
           go_enter Try.func74, Try.ntmps74
           try go_wp2
           have n0_ := Aside0.mk (below_drew1 HB.out)
           clear HB
           have HB := n0_
           clear n0_
           have p262 : 0 ≤ (0 : Int) := (by omega)
           have q262 : 0 < (l1.length : Int) := of_decide_eq_true (by first | (with_reducible assumption) | assumption)
           obtain ⟨ad262, e262, hx262_0⟩ := Kd.at_int HR1.out 0 p262 q262
           have hw262_0 := hx262_0
           (try rw [show ((0 : Int)).toNat = 0 from rfl] at hw262_0)
           (try rw [show 0 * 1 = 0 from rfl] at hw262_0)
           (try rw [Addr.add_zero'] at hw262_0)
           cases e262
           have qi262 : (0 < l1.length) = True := eq_true (by omega)
           (try rw [show ((0 : Int)).toNat = 0 from rfl] at hx262_0)
           (try rw [Addr.add_zero'] at hx262_0)
           try replace hx262_0 := (HB.out.cell (World.block_lt_of_cell? w _ hx262_0)).trans hx262_0
           replace p262 := eq_true p262
           replace q262 := eq_true q262
           have p263 : 0 ≤ (0 : Int) := (by omega)
           have q263 : 0 < (l2.length : Int) := of_decide_eq_true (by first | (with_reducible assumption) | assumption)
           obtain ⟨ad263, e263, hx263_0⟩ := Kd.at_int HR2.out 0 p263 q263
           have hw263_0 := hx263_0
           (try rw [show ((0 : Int)).toNat = 0 from rfl] at hw263_0)
           (try rw [show 0 * 1 = 0 from rfl] at hw263_0)
           (try rw [Addr.add_zero'] at hw263_0)
           cases e263
           have qi263 : (0 < l2.length) = True := eq_true (by omega)
           (try rw [show ((0 : Int)).toNat = 0 from rfl] at hx263_0)
           (try rw [Addr.add_zero'] at hx263_0)
           try replace hx263_0 := (HB.out.cell (World.block_lt_of_cell? w _ hx263_0)).trans hx263_0
           replace p263 := eq_true p263
           replace q263 := eq_true q263
           have p265 : 0 ≤ (1 : Int) := (by omega)
           have q265 : 1 < (l1.length : Int) := of_decide_eq_true (by first | (with_reducible assumption) | assumption)
           obtain ⟨ad265, e265, hx265_0⟩ := Kd.at_int HR1.out 1 p265 q265
           have hw265_0 := hx265_0
           (try rw [show ((1 : Int)).toNat = 1 from rfl] at hw265_0)
           (try rw [show 1 * 1 = 1 from rfl] at hw265_0)
           (try simp only [Nat.reduceMul, Nat.reduceEqDiff, Go.Addr.add, ↓reduceIte] at hw265_0)
           obtain rfl : ad262 = ad265 := (by injection e265)
           (try simp only [show (1 : Int).toNat = 1 from rfl, Nat.reduceMul, Nat.reduceEqDiff, Go.Addr.add, ↓reduceIte] at hx265_0)
           have qi265 : (1 < l1.length) = True := eq_true (by omega)
           (try rw [show ((1 : Int)).toNat = 1 from rfl] at hx265_0)
           try replace hx265_0 := (HB.out.cell (World.block_lt_of_cell? w _ hx265_0)).trans hx265_0
           replace p265 := eq_true p265
           replace q265 := eq_true q265
           have p266 : 0 ≤ (1 : Int) := (by omega)
           have q266 : 1 < (l2.length : Int) := of_decide_eq_true (by first | (with_reducible assumption) | assumption)
           obtain ⟨ad266, e266, hx266_0⟩ := Kd.at_int HR2.out 1 p266 q266
           have hw266_0 := hx266_0
           (try rw [show ((1 : Int)).toNat = 1 from rfl] at hw266_0)
           (try rw [show 1 * 1 = 1 from rfl] at hw266_0)
           (try simp only [Nat.reduceMul, Nat.reduceEqDiff, Go.Addr.add, ↓reduceIte] at hw266_0)
           obtain rfl : ad263 = ad266 := (by injection e266)
           (try simp only [show (1 : Int).toNat = 1 from rfl, Nat.reduceMul, Nat.reduceEqDiff, Go.Addr.add, ↓reduceIte] at hx266_0)
           have qi266 : (1 < l2.length) = True := eq_true (by omega)
           (try rw [show ((1 : Int)).toNat = 1 from rfl] at hx266_0)
           try replace hx266_0 := (HB.out.cell (World.block_lt_of_cell? w _ hx266_0)).trans hx266_0
           replace p266 := eq_true p266
           replace q266 := eq_true q266
           refine start_ (n := 18) (S := fun w' => w'.cell? ad262 = some (.int .i64 (rd l1 0)) ∧ w'.cell? ad263 = some (.int .i64 (rd l2 0)) ∧ w'.cell? ⟨ad262.block, ad262.off + 1, none⟩ = some (.int .i64 (rd l1 1)) ∧ w'.cell? ⟨ad263.block, ad263.off + 1, none⟩ = some (.int .i64 (rd l2 1))) (ds := []) (Pt.bm 18 0) (by kernel_rfl) rfl rfl ⟨((HB.out.cell (World.block_lt_of_cell? w _ hw262_0)).trans hw262_0), ((HB.out.cell (World.block_lt_of_cell? w _ hw263_0)).trans hw263_0), ((HB.out.cell (World.block_lt_of_cell? w _ hw265_0)).trans hw265_0), ((HB.out.cell (World.block_lt_of_cell? w _ hw266_0)).trans hw266_0)⟩ (fun hHeld => ?_); refine with_tabW spec_l1Between.tab14 spec_l1Between.bits14 (fun HT_ HW_ => ?_)
           generalize w.drew = w101 at HB hx262_0 hx263_0 hx265_0 hx266_0 hHeld ⊢
           refine Pt.pu 0 (some 162) (Pt.bm 18 1) (any_of HT_.out (by kernel_rfl)) ?_
           refine Pt.pu 1 (some 163) (Pt.bm 18 3) (any_of HT_.out (by kernel_rfl)) ?_
           refine Pt.pu 2 (some 164) (Pt.bm 18 7) (any_of HT_.out (by kernel_rfl)) ?_
           refine Pt.pu 4 (some 166) (Pt.bm 18 23) (any_of HT_.out (by kernel_rfl)) ?_
           refine Pt.pu 5 (some 167) (Pt.bm 18 55) (any_of HT_.out (by kernel_rfl)) ?_
           refine Pt.pu 8 (some 170) (Pt.bm 18 311) (any_of HT_.out (by kernel_rfl)) ?_
           refine Pt.pu 9 (some 171) (Pt.bm 18 823) (any_of HT_.out (by kernel_rfl)) ?_
           refine Pt.pu 10 (some 172) (Pt.bm 18 1847) (any_of HT_.out (by kernel_rfl)) ?_
           refine Pt.pu 12 (some 174) (Pt.bm 18 5943) (any_of HT_.out (by kernel_rfl)) ?_
           refine Pt.pu 13 (some 175) (Pt.bm 18 14135) (any_of HT_.out (by kernel_rfl)) ?_
           refine Pt.tk 3 (some 165) (Pt.bm 18 14143) rfl rfl (take_ofW HT_.out HW_.out (by kernel_rfl)) hHeld (Or.inl ⟨by rfl, by rintro w' ⟨s0, s1, s2, s3⟩; go_simp; with_reducible rfl⟩) ?_
           refine Pt.tk 6 (some 168) (Pt.bm 18 14207) rfl rfl (take_ofW HT_.out HW_.out (by kernel_rfl)) hHeld (Or.inl ⟨by rfl, by rintro w' ⟨s0, s1, s2, s3⟩; go_simp; with_reducible rfl⟩) ?_
           refine Pt.tk 11 (some 173) (Pt.bm 18 16255) rfl rfl (take_ofW HT_.out HW_.out (by kernel_rfl)) hHeld (Or.inl ⟨by rfl, by rintro w' ⟨s0, s1, s2, s3⟩; go_simp; with_reducible rfl⟩) ?_
           refine Pt.tk 14 (some 176) (Pt.bm 18 32639) rfl rfl (take_ofW HT_.out HW_.out (by kernel_rfl)) hHeld (Or.inl ⟨by rfl, by rintro w' ⟨s0, s1, s2, s3⟩; go_simp; with_reducible rfl⟩) ?_
           refine one_ (i := 7) (N := some 169) (Pt.bm 18 32767) rfl rfl (one_of HT_.out (by kernel_rfl)) (by decide) (fun K hK => ?_)
           refine goes_ Try.func101 (by kernel_rfl) rfl #[.int .i64 a0, .int .i64 (rd l1 0), .int .i64 (rd l2 0)] (by rfl) rfl rfl (by (try simp only [List.map_toArray, List.map_cons, List.map_nil]); first | done | rfl | (simp only [List.length_drop, List.length_take]; rfl)) ?_
           with_reducible refine (spec_l1Do.calls a0 (rd l1 0) (rd l2 0) t264 _ A97.out).mono ?_
           rintro e w' ⟨rfl, ⟨nd, rfl⟩⟩
           refine ⟨_, rfl, ?_⟩
           refine hK.out _ _ ⟨((HB.out.cell (World.block_lt_of_cell? w _ hw262_0)).trans hw262_0), ((HB.out.cell (World.block_lt_of_cell? w _ hw263_0)).trans hw263_0), ((HB.out.cell (World.block_lt_of_cell? w _ hw265_0)).trans hw265_0), ((HB.out.cell (World.block_lt_of_cell? w _ hw266_0)).trans hw266_0)⟩ (fun hHeld => ?_)
           clear hK K
           refine norm_ (a' := ?_) ?_ ?_
           rotate_left
           ·show Act.put _ (some 169) _ = _
            simp only [Act.put, List.setIfInBounds_toArray, List.set_cons_zero, List.set_cons_succ, i64_w, i32_w]
            rfl
           refine one_ (i := 15) (N := some 177) (Pt.bm 18 65535) rfl rfl (one_of HT_.out (by kernel_rfl)) (by decide) (fun K hK => ?_)
           refine goes_ Try.func101 (by kernel_rfl) rfl #[.int .i64 a0, .int .i64 (rd l1 1), .int .i64 (rd l2 1)] (by rfl) rfl rfl (by (try simp only [List.map_toArray, List.map_cons, List.map_nil]); first | done | rfl | (simp only [List.length_drop, List.length_take]; rfl)) ?_
           with_reducible refine (spec_l1Do.calls a0 (rd l1 1) (rd l2 1) t267 _ A100.out).mono ?_
           rintro e w' ⟨rfl, ⟨nd, rfl⟩⟩
           refine ⟨_, rfl, ?_⟩
           refine hK.out _ _ ⟨((HB.out.cell (World.block_lt_of_cell? w _ hw262_0)).trans hw262_0), ((HB.out.cell (World.block_lt_of_cell? w _ hw263_0)).trans hw263_0), ((HB.out.cell (World.block_lt_of_cell? w _ hw265_0)).trans hw265_0), ((HB.out.cell (World.block_lt_of_cell? w _ hw266_0)).trans hw266_0)⟩ (fun hHeld => ?_)
           clear hK K
           refine norm_ (a' := ?_) ?_ ?_
           rotate_left
           ·show Act.put _ (some 177) _ = _
            simp only [Act.put, List.setIfInBounds_toArray, List.set_cons_zero, List.set_cons_succ, i64_w, i32_w]
            rfl
           refine one_ (i := 16) (N := some 178) (Pt.bm 18 131071) rfl rfl (one_of HT_.out (by kernel_rfl)) (by decide) (fun K hK => ?_)
           refine Kd.R_lit_step (Kd.int .i64) _ 3 ?hg (N := 178) ?hd (xs := ([t264, t267] : List Int)) (inner := [.int .i64 t264, .int .i64 t267]) (ok := fun _ => True) (okp := fun _ => True) ?hr ?hp (fun _ hk => hk) trivial (Below.refl _ _) (Nat.le_refl _) (by simp) ?_; (case hd => rfl); (case hg => rfl); (case hr => first | (go_simp; done) | (go_simp; rfl)); (case hp => exact (Reps.one (show Kd.M (Kd.int .i64) _ _ _ t264 [.int .i64 t264] from rfl) (Reps.one (show Kd.M (Kd.int .i64) _ _ _ t267 [.int .i64 t267] from rfl) (Reps.none _ _))))
           intro v269 w102 ho103 hb hg_ hnew_
           clear hg_ hnew_
           (first | rw [← Ny268.out] at ho103 | (simp only [Int.reduceToNat] at ho103; rw [← Ny268.out] at ho103))
           have n0_ := Aside0.mk (Kd.R_lower ho103 (below_size (by repeat (first | (with_reducible first | exact HB.out | apply bwA | apply bwN | apply bwD) | exact HB.out))))
           have n1_ := Aside0.mk (below_step (by repeat (first | (with_reducible first | exact HB.out | apply bwA | apply bwN | apply bwD) | exact HB.out)) hb)
           clear HB
           have HO270 := n0_
           have HB := n1_
           clear n0_ n1_
           clear hb ho103
           refine hK.out _ _ ⟨((HB.out.cell (World.block_lt_of_cell? w _ hw262_0)).trans hw262_0), ((HB.out.cell (World.block_lt_of_cell? w _ hw263_0)).trans hw263_0), ((HB.out.cell (World.block_lt_of_cell? w _ hw265_0)).trans hw265_0), ((HB.out.cell (World.block_lt_of_cell? w _ hw266_0)).trans hw266_0)⟩ (fun hHeld => ?_)
           clear hK K
           refine norm_ (a' := ?_) ?_ ?_
           rotate_left
           ·show Act.put _ (some 178) _ = _
            simp only [Act.put, List.setIfInBounds_toArray, List.set_cons_zero, List.set_cons_succ, i64_w, i32_w]
            rfl
           refine Pt.pu 17 (some 6) (Pt.bm 18 262143) (any_of HT_.out (by kernel_rfl)) ?_
           refine done_ (done_of HT_.out (by kernel_rfl)) ?_
           try go_wp2
           go_ret
           exact ⟨_, by first | rfl | (simp [errW_none, errW_some] <;> rfl) | (simp [*, errW_none, errW_some] <;> rfl), by (with_reducible repeat (first | apply Kd.R_alloc | apply Kd.R_drewN | apply Kd.R_drew)); exact HO270.out, by repeat (first | (with_reducible first | exact HB.out | apply bwA | apply bwN | apply bwD) | exact HB.out)⟩
          ·rw [if_neg c99] at H
           exact absurd H (by simp)
         ·rw [if_neg c98] at H
          exact absurd H (by simp)
        ·rw [if_neg c96] at H
         exact absurd H (by simp)
       ·rw [if_neg c95] at H
        exact absurd H (by simp)

end Go.Proofs.Ytpfkgmcbogcmoaa.QFnExactRangeOf
