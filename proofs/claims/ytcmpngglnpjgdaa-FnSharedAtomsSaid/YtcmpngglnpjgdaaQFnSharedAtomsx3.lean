-- Written by a program of this session (mk.py). Lean checks it.
import Derived.Test.YtcmpngglnpjgdaaQFnSharedAtomsx0
import Derived.Test.YtcmpngglnpjgdaaQFnSharedAtomsx1
import Derived.Test.YtcmpngglnpjgdaaQFnSharedAtomsx2
namespace Go.Proofs.Ytcmpngglnpjgdaa.QFnSharedAtoms
open Go.RowKit Go.Proofs.YtcmpngglnpjgdaaW.PrintWords Go.Proofs.YtcmpngglnpjgdaaW.PrintLast Go.Proofs.YtcmpngglnpjgdaaW.PrintMore
attribute [local go_sem] max2_int min2_int max_two min_two max_three min_three max_four min_four   -- for this text's walks alone
set_option linter.unusedVariables false
set_option linter.unusedSimpArgs false

/-! ### spec_l11Draw: function 107 -/
def spec_l11Draw.l0 : Nat → Int → Int → Int → List Int → Int → Int → List (List Int) → Option (Int × (List (List Int)) × Int)
 | 0, _, _, _, _, _, _, _ => none
 | k + 1, x1, x2, x8, x1000, x1001, x152000, x152001 => if x8 < x2 then ((spec_l40Rd_num.f k x1000 x1001 (([2, 3, 3, 2, 1, 3, 4] : List Int))).bind fun bt155 => ((spec_l11Lits.f k x1000 bt155.2 x1 bt155.1).bind fun bt157 => (if x152001.length < 5864062014805 then (spec_l11Draw.l0 k x1 x2 (wrap64 (x8 + 1)) x1000 bt157.2 x152000 (x152001 ++ [bt157.1])) else (none)))) else (some (x152000, x152001, x1001))
def spec_l11Draw.f (k : Nat) (s0_0 : List Int) (s0_1 : Int) (a1 : Int) (a2 : Int) : Option (Int × (List (List Int)) × Int) := spec_l11Draw.l0 k a1 a2 0 s0_0 s0_1 a1 ([] : List (List Int))
theorem spec_l11Draw.mono_l : ∀ k, (∀ y0 y1 y2 y3 y4 y5 y6, LeO (spec_l11Draw.l0 k y0 y1 y2 y3 y4 y5 y6) (spec_l11Draw.l0 (k + 1) y0 y1 y2 y3 y4 y5 y6))
 | 0 => fun _ _ _ _ _ _ _ r h => by simp [spec_l11Draw.l0] at h
 | k + 1 => by
  have ih0 := spec_l11Draw.mono_l k
  ·intro y0 y1 y2 y3 y4 y5 y6
   unfold spec_l11Draw.l0
   repeat' first
   | (with_reducible exact ih0 _ _ _ _ _ _ _)
   | (with_reducible exact spec_l11Lits.mono _ _ _ _ _)
   | (with_reducible exact spec_l40Rd_num.mono _ _ _ _)
   | (with_reducible exact LeO.refl _)
   | (with_reducible exact LeO.none _)
   | (with_reducible refine LeO.ite ?_ ?_)
   | (with_reducible refine LeO.bind ?_ (fun _ => ?_))
   | exact ih0 _ _ _ _ _ _ _
   | exact spec_l11Lits.mono _ _ _ _ _
   | exact spec_l40Rd_num.mono _ _ _ _
   | exact LeO.none _
   | refine LeO.ite ?_ ?_
   | refine LeO.bind ?_ (fun _ => ?_)
theorem spec_l11Draw.mono : ∀ a0 a1 a2 a3 k, LeO (spec_l11Draw.f k a0 a1 a2 a3) (spec_l11Draw.f (k + 1) a0 a1 a2 a3) := by
 intro a0 a1 a2 a3 k
 have ih0 := spec_l11Draw.mono_l k
 unfold spec_l11Draw.f
 repeat' first
   | (with_reducible exact ih0 _ _ _ _ _ _ _)
   | (with_reducible exact spec_l11Lits.mono _ _ _ _ _)
   | (with_reducible exact spec_l40Rd_num.mono _ _ _ _)
   | (with_reducible exact LeO.refl _)
   | (with_reducible exact LeO.none _)
   | (with_reducible refine LeO.ite ?_ ?_)
   | (with_reducible refine LeO.bind ?_ (fun _ => ?_))
   | exact ih0 _ _ _ _ _ _ _
   | exact spec_l11Lits.mono _ _ _ _ _
   | exact spec_l40Rd_num.mono _ _ _ _
   | exact LeO.none _
   | refine LeO.ite ?_ ?_
   | refine LeO.bind ?_ (fun _ => ?_)
def spec_l11Draw.T5 : Bool × List (List Nat × List Nat) := (true, [([], []), ([0], [0]), ([], []), ([], []), ([], []), ([], []), ([4, 5], [4, 5]), ([2, 3, 6, 6], [2, 3, 6]), ([7], [7]), ([1, 8, 7], [1, 8]), ([0, 1, 2, 3, 4, 5, 6, 7, 8, 9], []), ([10, 9, 9, 0, 1, 2, 3, 4, 5, 6, 7, 8, 9], [9, 10])])
def spec_l11Draw.B5 : List Nat := [0, 1, 0, 0, 0, 0, 48, 124, 252, 511, 1023, 2047]
theorem spec_l11Draw.tab5 : rtab .any (opsOf Try.f107 5) = spec_l11Draw.T5 := by kernel_rfl
theorem spec_l11Draw.bits5 : waitsOk spec_l11Draw.T5.2 spec_l11Draw.B5 = true := by kernel_rfl
set_option maxHeartbeats 8000000 in
set_option maxRecDepth 100000 in
theorem spec_l11Draw.calls (k : Nat) (g : Nat) (s0_0 : List Int) (s0_1 : Int) (a1 : Int) (a2 : Int) (r1 : Int) (r2 : List (List Int)) (r3 : Int) (w0 w : World) (hI : IsS125 w0 w g s0_0 s0_1) (hB : Below w0.heap.size w0 w) (h : spec_l11Draw.f k s0_0 s0_1 a1 a2 = some (r1, r2, r3)) :
  Calls Try.prog 107 #[.pointer (some ⟨g, 0, none⟩), .int .i64 a1, .int .i64 a2] w fun e w' => ∃ v1_ : Value, e = .returned (.agg #[.int .i64 r1, v1_]) ∧ Kd.S (Kd.slice 3 (Kd.int .i64)) 46 w' w.heap.size (fun _ => True) v1_ r2 ∧ IsS125 w0 w' g s0_0 r3 ∧ Below w0.heap.size w0 w' ∧ KeepBut w w' g none := by
 have hu49 := Try.underlying49
 have HI0 := Aside0.mk hI
 have HK := Aside0.mk (KeepBut.refl w g none)
 have HL := Aside0.mk hB.size
 clear hI
 have HW0 := Aside0.mk hB.size
 have HB := Aside0.mk hB
 clear hB
 have H : (spec_l11Draw.l0 k a1 a2 0 s0_0 s0_1 a1 ([] : List (List Int))) = some (r1, r2, r3) := h
 clear h
 have H' := Aside0.mk H
 clear H
 go_enter Try.func107, Try.ntmps107
 go_wp2_with (first | ((with_reducible refine gate_dst (N := 6) rfl ?_); refine box_event ?hg (N := 6) ?hd (cs := #[.int .i64 0, .slice none 0 0]) (t := 49) ?hr ?_; (case hd => rfl); (case hg => rfl); (case hr => first | (go_simp; done) | (go_simp; rfl)); intro gb150 hg w4 hbox hb; have n0_ := Aside0.mk (IsS125.below (by repeat (first | (with_reducible first | exact HI0.out | apply IsS125.alloc | apply IsS125.drewN | apply IsS125.drew | apply IsS125.set_1) | exact HI0.out)) hb); have n1_ := Aside0.mk (KeepBut.trans (by repeat (first | (with_reducible first | exact HK.out | apply KeepBut.set_ | apply keep_drewN | apply keep_drew | apply keep_alloc) | exact HK.out)) (KeepBut.of_below hb g none) (.inl rfl)); have n2_ := Aside0.mk (below_step (by repeat (first | (with_reducible first | exact HB.out | apply bwA | apply bwN | apply bwD | refine below_set ?_ (IsS125.ge HI0.out)) | exact HB.out)) hb); have n3_ := Aside0.mk (hbox); have n4_ := Aside0.mk ((by rw [hg]; exact (keep_size (w := w) (g := g) (row := none) (by repeat (first | (with_reducible first | exact HK.out | apply KeepBut.set_ | apply keep_drewN | apply keep_drew | apply keep_alloc) | exact HK.out))) : w.heap.size ≤ gb150)); have n5_ := Aside0.mk ((Nat.le_trans HW0.out (by rw [hg]; exact (keep_size (w := w) (g := g) (row := none) (by repeat (first | (with_reducible first | exact HK.out | apply KeepBut.set_ | apply keep_drewN | apply keep_drew | apply keep_alloc) | exact HK.out))) : w.heap.size ≤ gb150) : w0.heap.size ≤ gb150)); have n6_ := Aside0.mk ((by rw [hg]; exact Nat.ne_of_lt (IsS125.lt (show IsS125 w0 _ g s0_0 s0_1 from by repeat (first | (with_reducible first | exact HI0.out | apply IsS125.alloc | apply IsS125.drewN | apply IsS125.drew | apply IsS125.set_1) | exact HI0.out))) : g ≠ gb150)); have n7_ := Aside0.mk ((by rw [hg]; exact Nat.ne_of_gt (IsS125.lt (show IsS125 w0 _ g s0_0 s0_1 from by repeat (first | (with_reducible first | exact HI0.out | apply IsS125.alloc | apply IsS125.drewN | apply IsS125.drew | apply IsS125.set_1) | exact HI0.out))) : gb150 ≠ g)); clear HI0; clear HK; clear HB; have HI0 := n0_; have HK := n1_; have HB := n2_; have BK150 := n3_; have GW150 := n4_; have GE150 := n5_; have NB0_150 := n6_; have NB150_0 := n7_; clear n0_ n1_ n2_ n3_ n4_ n5_ n6_ n7_; clear hb hbox hg) | ((with_reducible refine gate_dst (N := 7) rfl ?_); refine box_event ?hg (N := 7) ?hd (cs := #[.int .i64 0, .slice none 0 0]) (t := 49) ?hr ?_; (case hd => rfl); (case hg => rfl); (case hr => first | (go_simp; done) | (go_simp; rfl)); intro gb151 hg w5 hbox hb; have n0_ := Aside0.mk (IsS125.below (by repeat (first | (with_reducible first | exact HI0.out | apply IsS125.alloc | apply IsS125.drewN | apply IsS125.drew | apply IsS125.set_1 | refine IsS125.far ?_ NB0_150.out _) | exact HI0.out)) hb); have n1_ := Aside0.mk (blk_below (g := gb150) (o := .cells #[.int .i64 0, .slice none 0 0] 49 (0, 0)) (by (with_reducible repeat (first | refine blk_drewN ?_ _ | refine blk_drew ?_ | refine blk_alloc ?_ _)); exact BK150.out) hb); have n2_ := Aside0.mk (KeepBut.trans (by repeat (first | (with_reducible first | exact HK.out | apply KeepBut.set_ | apply keep_drewN | apply keep_drew | apply keep_alloc | refine keep_far ?_ GW150.out _) | exact HK.out)) (KeepBut.of_below hb g none) (.inl rfl)); have n3_ := Aside0.mk (below_step (by repeat (first | (with_reducible first | exact HB.out | apply bwA | apply bwN | apply bwD | refine below_set ?_ (IsS125.ge HI0.out) | refine below_set ?_ GE150.out) | exact HB.out)) hb); have n4_ := Aside0.mk (hbox); have n5_ := Aside0.mk ((by rw [hg]; exact (keep_size (w := w) (g := g) (row := none) (by repeat (first | (with_reducible first | exact HK.out | apply KeepBut.set_ | apply keep_drewN | apply keep_drew | apply keep_alloc | refine keep_far ?_ GW150.out _) | exact HK.out))) : w.heap.size ≤ gb151)); have n6_ := Aside0.mk ((Nat.le_trans HW0.out (by rw [hg]; exact (keep_size (w := w) (g := g) (row := none) (by repeat (first | (with_reducible first | exact HK.out | apply KeepBut.set_ | apply keep_drewN | apply keep_drew | apply keep_alloc | refine keep_far ?_ GW150.out _) | exact HK.out))) : w.heap.size ≤ gb151) : w0.heap.size ≤ gb151)); have n7_ := Aside0.mk ((by rw [hg]; exact Nat.ne_of_lt (blk_lt (g := gb150) (o := .cells #[.int .i64 0, .slice none 0 0] 49 (0, 0)) (by (with_reducible repeat (first | refine blk_drewN ?_ _ | refine blk_drew ?_ | refine blk_alloc ?_ _)); exact BK150.out)) : gb150 ≠ gb151)); have n8_ := Aside0.mk ((by rw [hg]; exact Nat.ne_of_gt (blk_lt (g := gb150) (o := .cells #[.int .i64 0, .slice none 0 0] 49 (0, 0)) (by (with_reducible repeat (first | refine blk_drewN ?_ _ | refine blk_drew ?_ | refine blk_alloc ?_ _)); exact BK150.out)) : gb151 ≠ gb150)); have n9_ := Aside0.mk ((by rw [hg]; exact Nat.ne_of_lt (IsS125.lt (show IsS125 w0 _ g s0_0 s0_1 from by repeat (first | (with_reducible first | exact HI0.out | apply IsS125.alloc | apply IsS125.drewN | apply IsS125.drew | apply IsS125.set_1 | refine IsS125.far ?_ NB0_150.out _) | exact HI0.out))) : g ≠ gb151)); have n10_ := Aside0.mk ((by rw [hg]; exact Nat.ne_of_gt (IsS125.lt (show IsS125 w0 _ g s0_0 s0_1 from by repeat (first | (with_reducible first | exact HI0.out | apply IsS125.alloc | apply IsS125.drewN | apply IsS125.drew | apply IsS125.set_1 | refine IsS125.far ?_ NB0_150.out _) | exact HI0.out))) : gb151 ≠ g)); clear HI0; clear BK150; clear HK; clear HB; have HI0 := n0_; have BK150 := n1_; have HK := n2_; have HB := n3_; have BK151 := n4_; have GW151 := n5_; have GE151 := n6_; have NB150_151 := n7_; have NB151_150 := n8_; have NB0_151 := n9_; have NB151_0 := n10_; clear n0_ n1_ n2_ n3_ n4_ n5_ n6_ n7_ n8_ n9_ n10_; clear hb hbox hg; have hnb6 := NB151_150.out; have hnc6 := NB150_151.out; have hnb7 := NB151_0.out; have hnc7 := NB0_151.out; have hcz8_0 : w5.cell? ⟨gb151, 0, none⟩ = some (.int .i64 0) := (blk_cell BK151.out 0).trans rfl; have hcz8_1 : w5.cell? ⟨gb151, 1, none⟩ = some (.slice none 0 0) := (blk_cell BK151.out 1).trans rfl; have hfz8_0 := blk_frozen BK151.out 0; have hfz8_1 := blk_frozen BK151.out 1))
 go_loopg [8] k (fun kq v8 w' => ∃ (x8_1 : Int) (x1001_1 : Int) (x152001_1 : List (List Int)) (u152001 : Value), v8 = .int .i64 x8_1 ∧ Aside0 (spec_l11Draw.l0 kq a1 a2 x8_1 s0_0 x1001_1 a1 x152001_1 = some (r1, r2, r3)) ∧ Aside0 (kq ≤ k) ∧ Aside0 (Kd.S (Kd.slice 3 (Kd.int .i64)) 46 w' w.heap.size (fun _ => True) u152001 x152001_1) ∧ Aside0 (w'.heap[gb150]? = some (.cells #[.int .i64 0, (.slice none 0 0)] 49 (0, 0))) ∧ Aside0 (w'.heap[gb151]? = some (.cells #[.int .i64 a1, u152001] 49 (0, 0))) ∧ Aside0 (IsS125 w0 w' g s0_0 x1001_1) ∧ Aside0 (KeepBut w w' g none) ∧ Aside0 (Below w0.heap.size w0 w'))
 case atStart => exact ⟨(0), (s0_1), (([] : List (List Int))), (.slice none 0 0), (by first | rfl | (simp; done) | (simp [*]; done)), H', ⟨Nat.le_refl _⟩, ⟨by first | exact Kd.S_nil _ _ _ _ _ | exact Kd.N_nil _ _ _ _ _ | exact Kd.V_nil _ _ _ _ _ | exact Kd.Q_nil _ _ _ _ _ | exact Kd.R_nil _ _ _ _ _⟩, ⟨by (with_reducible repeat (first | refine blk_drewN ?_ _ | refine blk_drew ?_ | refine blk_alloc ?_ _)); refine blk_far ?_ NB150_151.out _; (with_reducible repeat (first | refine blk_drewN ?_ _ | refine blk_drew ?_ | refine blk_alloc ?_ _)); refine blk_far ?_ NB150_151.out _; (with_reducible repeat (first | refine blk_drewN ?_ _ | refine blk_drew ?_ | refine blk_alloc ?_ _)); exact BK150.out⟩, ⟨by (with_reducible repeat (first | refine blk_drewN ?_ _ | refine blk_drew ?_ | refine blk_alloc ?_ _)); refine blk_put (cs := #[.int .i64 a1, .slice none 0 0]) ?_ 1 _ rfl; (with_reducible repeat (first | refine blk_drewN ?_ _ | refine blk_drew ?_ | refine blk_alloc ?_ _)); refine blk_put (cs := #[.int .i64 0, .slice none 0 0]) ?_ 0 _ rfl; (with_reducible repeat (first | refine blk_drewN ?_ _ | refine blk_drew ?_ | refine blk_alloc ?_ _)); exact BK151.out⟩, ⟨by repeat (first | (with_reducible first | exact HI0.out | apply IsS125.alloc | apply IsS125.drewN | apply IsS125.drew | apply IsS125.set_1 | refine IsS125.far ?_ NB0_150.out _ | refine IsS125.far ?_ NB0_151.out _) | exact HI0.out)⟩, ⟨by repeat (first | (with_reducible first | exact HK.out | apply KeepBut.set_ | apply keep_drewN | apply keep_drew | apply keep_alloc | refine keep_far ?_ GW150.out _ | refine keep_far ?_ GW151.out _) | exact HK.out)⟩, ⟨by repeat (first | (with_reducible first | exact HB.out | apply bwA | apply bwN | apply bwD | refine below_set ?_ (IsS125.ge HI0.out) | refine below_set ?_ GE150.out | refine below_set ?_ GE151.out) | exact HB.out)⟩⟩
 case round =>
  clear H'
  try clear c1
  try clear p2
  try clear c6
  try clear c7
  try clear hcz8_0
  try clear hcz8_1
  try clear hfz8_0
  try clear hfz8_1
  obtain ⟨x8_1, x1001_1, x152001_1, u152001, rfl, HA, HK1, HO_152001, BK150, BK151, HI0, HK, HB⟩ := hrel
  cases gk with
  | zero => exact absurd HA.out (by simp [spec_l11Draw.l0])
  | succ k1 =>
   have H := HA.out
   clear HA
   simp only [spec_l11Draw.l0] at H
   by_cases c9 : x8_1 < a2
   ·rw [if_pos c9] at H
    have c9b0 : decide (x8_1 < a2) = true := decide_eq_true c9
    clear c9
    obtain ⟨y152, hy152⟩ : ∃ y_ : List Int, y_ = (([2, 3, 3, 2, 1, 3, 4] : List Int)) := ⟨_, rfl⟩
    replace H : ((spec_l40Rd_num.f k1 s0_0 x1001_1 y152).bind fun bt155 => ((spec_l11Lits.f k1 s0_0 bt155.2 a1 bt155.1).bind fun bt157 => (if x152001_1.length < 5864062014805 then (spec_l11Draw.l0 k1 a1 a2 (wrap64 (x8_1 + 1)) s0_0 bt157.2 a1 (x152001_1 ++ [bt157.1])) else (none)))) = some (r1, r2, r3) := by first | (rw [hy152]; with_reducible exact H) | (have H2_ := (Option.bind_some _ _).symm.trans H; rw [hy152]; with_reducible exact H2_) | (have H2_ := (Option.bind_some _ _).symm.trans H; with_reducible exact H2_) | with_reducible exact H | (rw [hy152]; exact H) | exact H
    have Ny152 := Aside0.mk hy152
    clear hy152
    replace H := Option.bind_eq_some_iff.mp H
    obtain ⟨⟨t155, t156⟩, A100, H⟩ := H
    replace H : ((spec_l11Lits.f k1 s0_0 t156 a1 t155).bind fun bt157 => (if x152001_1.length < 5864062014805 then (spec_l11Draw.l0 k1 a1 a2 (wrap64 (x8_1 + 1)) s0_0 bt157.2 a1 (x152001_1 ++ [bt157.1])) else (none))) = some (r1, r2, r3) := H
    have A10 := Aside0.mk A100
    clear A100
    replace H := Option.bind_eq_some_iff.mp H
    obtain ⟨⟨t157, t160⟩, A110, H⟩ := H
    replace H : (if x152001_1.length < 5864062014805 then (spec_l11Draw.l0 k1 a1 a2 (wrap64 (x8_1 + 1)) s0_0 t160 a1 (x152001_1 ++ [t157])) else (none)) = some (r1, r2, r3) := H
    have A11 := Aside0.mk A110
    clear A110
    by_cases c12 : x152001_1.length < 5864062014805
    ·rw [if_pos c12] at H
     have LMc12 := Aside0.mk c12
     clear c12
     obtain ⟨y161, hy161⟩ : ∃ y_ : List (List Int), y_ = (x152001_1 ++ [t157]) := ⟨_, rfl⟩
     replace H : (spec_l11Draw.l0 k1 a1 a2 (wrap64 (x8_1 + 1)) s0_0 t160 a1 y161) = some (r1, r2, r3) := by first | (rw [hy161]; with_reducible exact H) | (have H2_ := (Option.bind_some _ _).symm.trans H; rw [hy161]; with_reducible exact H2_) | (have H2_ := (Option.bind_some _ _).symm.trans H; with_reducible exact H2_) | with_reducible exact H | (rw [hy161]; exact H) | exact H
     have Ny161 := Aside0.mk hy161
     clear hy161
     have H' := Aside0.mk H
     clear H
     try go_wp2
     have n0_ := Aside0.mk (Kd.S_drew HO_152001.out)
     have n1_ := Aside0.mk (blk_drew BK150.out)
     have n2_ := Aside0.mk (blk_drew BK151.out)
     have n3_ := Aside0.mk (IsS125.drew HI0.out)
     have n4_ := Aside0.mk (keep_drew HK.out)
     have n5_ := Aside0.mk (below_drew1 HB.out)
     clear HO_152001
     clear BK150
     clear BK151
     clear HI0
     clear HK
     clear HB
     have HO_152001 := n0_
     have BK150 := n1_
     have BK151 := n2_
     have HI0 := n3_
     have HK := n4_
     have HB := n5_
     clear n0_ n1_ n2_ n3_ n4_ n5_
     refine start_ (n := 12) (S := fun w' => w'.cell? ⟨gb151, 0, none⟩ = some (.int .i64 a1) ∧ w'.cell? ⟨gb151, 1, none⟩ = some (u152001)) (ds := [11]) #[false, false, false, false, false, false, false, false, false, false, false, false] (by kernel_rfl) rfl rfl ⟨(blk_cell BK151.out 0).trans rfl, (blk_cell BK151.out 1).trans rfl⟩ (fun hHeld => ?_); refine with_tabW spec_l11Draw.tab5 spec_l11Draw.bits5 (fun HT_ HW_ => ?_)
     generalize wr.drew = w13 at HO_152001 BK150 BK151 HI0 HK HB hHeld ⊢
     refine pure_ (i := 0) (N := some 16) (v := ?_) (a' := ?_) #[true, false, false, false, false, false, false, false, false, false, false, false] rfl rfl (any_of HT_.out (by kernel_rfl)) (fun _ _ _ h => h) (Or.inl ⟨by rfl, ?_⟩) ?_ ?_
     rotate_left
     ·intro w'
      go_simp
      with_reducible rfl
     rotate_left
     ·simp only [Act.put, List.setIfInBounds_toArray, List.set_cons_zero, List.set_cons_succ, i64_w, i32_w]
      rfl
     refine pure_ (i := 2) (N := some 18) (v := ?_) (a' := ?_) #[true, false, true, false, false, false, false, false, false, false, false, false] rfl rfl (any_of HT_.out (by kernel_rfl)) (fun _ _ _ h => h) (Or.inl ⟨by rfl, ?_⟩) ?_ ?_
     rotate_left
     ·intro w'
      go_simp
      with_reducible rfl
     rotate_left
     ·simp only [Act.put, List.setIfInBounds_toArray, List.set_cons_zero, List.set_cons_succ, i64_w, i32_w]
      rfl
     refine pure_ (i := 3) (N := some 19) (v := ?_) (a' := ?_) #[true, false, true, true, false, false, false, false, false, false, false, false] rfl rfl (any_of HT_.out (by kernel_rfl)) (fun _ _ _ h => h) (Or.inl ⟨by rfl, ?_⟩) ?_ ?_
     rotate_left
     ·intro w'
      go_simp
      with_reducible rfl
     rotate_left
     ·simp only [Act.put, List.setIfInBounds_toArray, List.set_cons_zero, List.set_cons_succ, i64_w, i32_w]
      rfl
     refine pure_ (i := 4) (N := some 20) (v := ?_) (a' := ?_) #[true, false, true, true, true, false, false, false, false, false, false, false] rfl rfl (any_of HT_.out (by kernel_rfl)) (fun _ _ _ h => h) (Or.inl ⟨by rfl, ?_⟩) ?_ ?_
     rotate_left
     ·intro w'
      go_simp
      with_reducible rfl
     rotate_left
     ·simp only [Act.put, List.setIfInBounds_toArray, List.set_cons_zero, List.set_cons_succ, i64_w, i32_w]
      rfl
     refine take_ (i := 1) (N := some 17) (v := ?_) (a' := ?_) #[true, true, true, true, true, false, false, false, false, false, false, false] rfl rfl (take_ofW HT_.out HW_.out (by kernel_rfl)) (fun _ _ _ h => h) (Or.inl ⟨by rfl, ?_⟩) hHeld ?_ ?_
     rotate_left
     ·rintro w' ⟨s0, s1⟩
      go_simp
      with_reducible rfl
     rotate_left
     ·simp only [Act.put, List.setIfInBounds_toArray, List.set_cons_zero, List.set_cons_succ, i64_w, i32_w]
      rfl
     refine one_ (i := 5) (N := some 21) #[true, true, true, true, true, true, false, false, false, false, false, false] rfl rfl (one_of HT_.out (by kernel_rfl)) (by decide) (fun K hK => ?_)
     refine Kd.R_lit_step (Kd.int .i64) _ 3 ?hg (N := 21) ?hd (xs := ([2, 3, 3, 2, 1, 3, 4] : List Int)) (inner := [.int .i64 2, .int .i64 3, .int .i64 3, .int .i64 2, .int .i64 1, .int .i64 3, .int .i64 4]) (ok := fun _ => True) (okp := fun _ => True) ?hr ?hp (fun _ hk => hk) trivial (Below.refl _ _) (Nat.le_refl _) (by simp) ?_; (case hd => rfl); (case hg => rfl); (case hr => first | (go_simp; done) | (go_simp; rfl)); (case hp => exact (Reps.one (show Kd.M (Kd.int .i64) _ _ _ 2 [.int .i64 2] from rfl) (Reps.one (show Kd.M (Kd.int .i64) _ _ _ 3 [.int .i64 3] from rfl) (Reps.one (show Kd.M (Kd.int .i64) _ _ _ 3 [.int .i64 3] from rfl) (Reps.one (show Kd.M (Kd.int .i64) _ _ _ 2 [.int .i64 2] from rfl) (Reps.one (show Kd.M (Kd.int .i64) _ _ _ 1 [.int .i64 1] from rfl) (Reps.one (show Kd.M (Kd.int .i64) _ _ _ 3 [.int .i64 3] from rfl) (Reps.one (show Kd.M (Kd.int .i64) _ _ _ 4 [.int .i64 4] from rfl) (Reps.none _ _)))))))))
     intro v153 w14 ho15 hb hg_ hnew_
     clear hg_ hnew_
     (first | rw [← Ny152.out] at ho15 | (simp only [Int.reduceToNat] at ho15; rw [← Ny152.out] at ho15))
     have n0_ := Aside0.mk (Kd.S_elder' (by (with_reducible repeat (first | apply Kd.S_alloc | apply Kd.S_drewN | apply Kd.S_drew)); exact HO_152001.out) (Kd.R_base ho15) hb)
     have n1_ := Aside0.mk (Kd.R_lower ho15 (keep_size (w := w) (g := g) (row := none) (by repeat (first | (with_reducible first | exact HK.out | apply KeepBut.set_ | apply keep_drewN | apply keep_drew | apply keep_alloc | refine keep_far ?_ GW150.out _ | refine keep_far ?_ GW151.out _) | exact HK.out))))
     have n2_ := Aside0.mk (blk_below (g := gb150) (o := .cells #[.int .i64 0, .slice none 0 0] 49 (0, 0)) (by (with_reducible repeat (first | refine blk_drewN ?_ _ | refine blk_drew ?_ | refine blk_alloc ?_ _)); exact BK150.out) hb)
     have n3_ := Aside0.mk (blk_below (g := gb151) (o := .cells #[.int .i64 a1, u152001] 49 (0, 0)) (by (with_reducible repeat (first | refine blk_drewN ?_ _ | refine blk_drew ?_ | refine blk_alloc ?_ _)); exact BK151.out) hb)
     have n4_ := Aside0.mk (IsS125.below (by repeat (first | (with_reducible first | exact HI0.out | apply IsS125.alloc | apply IsS125.drewN | apply IsS125.drew | apply IsS125.set_1 | refine IsS125.far ?_ NB0_150.out _ | refine IsS125.far ?_ NB0_151.out _) | exact HI0.out)) hb)
     have n5_ := Aside0.mk (KeepBut.trans (by repeat (first | (with_reducible first | exact HK.out | apply KeepBut.set_ | apply keep_drewN | apply keep_drew | apply keep_alloc | refine keep_far ?_ GW150.out _ | refine keep_far ?_ GW151.out _) | exact HK.out)) (KeepBut.of_below hb g none) (.inl rfl))
     have n6_ := Aside0.mk (below_step (by repeat (first | (with_reducible first | exact HB.out | apply bwA | apply bwN | apply bwD | refine below_set ?_ (IsS125.ge HI0.out) | refine below_set ?_ GE150.out | refine below_set ?_ GE151.out) | exact HB.out)) hb)
     clear HO_152001
     clear BK150
     clear BK151
     clear HI0
     clear HK
     clear HB
     have HO_152001 := n0_
     have HO154 := n1_
     have BK150 := n2_
     have BK151 := n3_
     have HI0 := n4_
     have HK := n5_
     have HB := n6_
     clear n0_ n1_ n2_ n3_ n4_ n5_ n6_
     clear hb ho15
     obtain ⟨Ao16, co16, eo16⟩ := Kd.R_slice HO154.out
     (first | subst eo16 | (injection eo16 with f1_ f2_ f3_; have f4_ := f1_.symm; have f5_ := f3_.symm; clear f1_ f2_ f3_; subst f4_; subst f5_))
     refine hK.out _ _ ⟨(blk_cell BK151.out 0).trans rfl, (blk_cell BK151.out 1).trans rfl⟩ (fun hHeld => ?_)
     clear hK K
     refine norm_ (a' := ?_) ?_ ?_
     rotate_left
     ·show Act.put _ (some 21) _ = _
      simp only [Act.put, List.setIfInBounds_toArray, List.set_cons_zero, List.set_cons_succ, i64_w, i32_w]
      rfl
     refine one_ (i := 6) (N := some 22) #[true, true, true, true, true, true, true, false, false, false, false, false] rfl rfl (one_of HT_.out (by kernel_rfl)) (by decide) (fun K hK => ?_)
     refine goes_ Try.func106 (by kernel_rfl) rfl #[.pointer (some ⟨g, 0, none⟩), .slice Ao16 y152.length co16] (by rfl) rfl rfl (by (try simp only [List.map_toArray, List.map_cons, List.map_nil]); first | done | rfl | (simp only [List.length_drop, List.length_take]; rfl)) ?_
     with_reducible refine (spec_l40Rd_num.calls k1 g s0_0 x1001_1 _ _ y152 t155 t156 w0 _ ?side1 ?side2 ?side3 ?side4 ?side5 A10.out).mono ?_
     (case side1 => repeat (first | (with_reducible first | exact HI0.out | apply IsS125.alloc | apply IsS125.drewN | apply IsS125.drew | apply IsS125.set_1 | refine IsS125.far ?_ NB0_150.out _ | refine IsS125.far ?_ NB0_151.out _) | exact HI0.out))
     (case side2 => repeat (first | (with_reducible first | exact HB.out | apply bwA | apply bwN | apply bwD | refine below_set ?_ (IsS125.ge HI0.out) | refine below_set ?_ GE150.out | refine below_set ?_ GE151.out) | exact HB.out))
     (case side3 => repeat (first | exact (Kd.R_reads' HO154.out).2.2 | (with_reducible refine Kd.C_alloc ?_ _) | (with_reducible refine Kd.C_drewN ?_ _) | (with_reducible refine Kd.C_drew ?_)))
     (case side4 => exact (Kd.R_reads' HO154.out).2.1)
     (case side5 => exact far_slice (IsS125.own_ne HI0.out HO154.out (by decide)))
     rintro e w17 ⟨rfl, hi, hb, hk⟩
     refine ⟨_, rfl, ?_⟩
     have n0_ := Aside0.mk (Kd.S_mono (Kd.S_keep (IsS125.apartS (show IsS125 w0 _ g s0_0 x1001_1 from by repeat (first | (with_reducible first | exact HI0.out | apply IsS125.alloc | apply IsS125.drewN | apply IsS125.drew | apply IsS125.set_1 | refine IsS125.far ?_ NB0_150.out _ | refine IsS125.far ?_ NB0_151.out _) | exact HI0.out)) (by (with_reducible repeat (first | apply Kd.S_alloc | apply Kd.S_drewN | apply Kd.S_drew)); exact HO_152001.out) (by decide)) hk (fun _ h => h.2)) (fun _ h => h.1))
     have n1_ := Aside0.mk (KeepBut.blk hk (g' := gb150) (o := .cells #[.int .i64 0, .slice none 0 0] 49 (0, 0)) (by (with_reducible repeat (first | refine blk_drewN ?_ _ | refine blk_drew ?_ | refine blk_alloc ?_ _)); exact BK150.out) NB150_0.out (by simp))
     have n2_ := Aside0.mk (KeepBut.blk hk (g' := gb151) (o := .cells #[.int .i64 a1, u152001] 49 (0, 0)) (by (with_reducible repeat (first | refine blk_drewN ?_ _ | refine blk_drew ?_ | refine blk_alloc ?_ _)); exact BK151.out) NB151_0.out (by simp))
     have n3_ := Aside0.mk (Kd.R_mono (Kd.R_keep (IsS125.apart (show IsS125 w0 _ g s0_0 x1001_1 from by repeat (first | (with_reducible first | exact HI0.out | apply IsS125.alloc | apply IsS125.drewN | apply IsS125.drew | apply IsS125.set_1 | refine IsS125.far ?_ NB0_150.out _ | refine IsS125.far ?_ NB0_151.out _) | exact HI0.out)) (by (with_reducible repeat (first | apply Kd.R_alloc | apply Kd.R_drewN | apply Kd.R_drew)); exact HO154.out) (by decide)) hk (fun _ h => h.2)) (fun _ h => h.1))
     have n4_ := Aside0.mk (KeepBut.trans (by repeat (first | (with_reducible first | exact HK.out | apply KeepBut.set_ | apply keep_drewN | apply keep_drew | apply keep_alloc | refine keep_far ?_ GW150.out _ | refine keep_far ?_ GW151.out _) | exact HK.out)) hk (.inl rfl))
     have n5_ := Aside0.mk (hb)
     have n6_ := Aside0.mk (hi)
     clear HO_152001
     clear BK150
     clear BK151
     clear HO154
     clear HK
     clear HB
     clear HI0
     have HO_152001 := n0_
     have BK150 := n1_
     have BK151 := n2_
     have HO154 := n3_
     have HK := n4_
     have HB := n5_
     have HI0 := n6_
     clear n0_ n1_ n2_ n3_ n4_ n5_ n6_
     (try clear hb)
     (try clear hb2)
     (try clear hk)
     (try clear hi)
     refine hK.out _ _ ⟨(blk_cell BK151.out 0).trans rfl, (blk_cell BK151.out 1).trans rfl⟩ (fun hHeld => ?_)
     clear hK K
     refine norm_ (a' := ?_) ?_ ?_
     rotate_left
     ·show Act.put _ (some 22) _ = _
      simp only [Act.put, List.setIfInBounds_toArray, List.set_cons_zero, List.set_cons_succ, i64_w, i32_w]
      rfl
     refine one_ (i := 7) (N := some 23) #[true, true, true, true, true, true, true, true, false, false, false, false] rfl rfl (one_of HT_.out (by kernel_rfl)) (by decide) (fun K hK => ?_)
     refine goes_ Try.func109 (by kernel_rfl) rfl #[.pointer (some ⟨g, 0, none⟩), .int .i64 a1, .int .i64 t155] (by rfl) rfl rfl (by (try simp only [List.map_toArray, List.map_cons, List.map_nil]); first | done | rfl | (simp only [List.length_drop, List.length_take]; rfl)) ?_
     with_reducible refine (spec_l11Lits.calls k1 g s0_0 t156 a1 t155 t157 t160 w0 _ ?side1 ?side2 A11.out).mono ?_
     (case side1 => repeat (first | (with_reducible first | exact HI0.out | apply IsS125.alloc | apply IsS125.drewN | apply IsS125.drew | apply IsS125.set_1 | refine IsS125.far ?_ NB0_150.out _ | refine IsS125.far ?_ NB0_151.out _) | exact HI0.out))
     (case side2 => repeat (first | (with_reducible first | exact HB.out | apply bwA | apply bwN | apply bwD | refine below_set ?_ (IsS125.ge HI0.out) | refine below_set ?_ GE150.out | refine below_set ?_ GE151.out) | exact HB.out))
     rintro e w18 ⟨v158, rfl, ho0, hi, hb, hk⟩
     refine ⟨_, rfl, ?_⟩
     have n0_ := Aside0.mk (Kd.S_mono (Kd.S_told (Kd.S_oldK (IsS125.apartS (show IsS125 w0 _ g s0_0 t156 from by repeat (first | (with_reducible first | exact HI0.out | apply IsS125.alloc | apply IsS125.drewN | apply IsS125.drew | apply IsS125.set_1 | refine IsS125.far ?_ NB0_150.out _ | refine IsS125.far ?_ NB0_151.out _) | exact HI0.out)) (by (with_reducible repeat (first | apply Kd.S_alloc | apply Kd.S_drewN | apply Kd.S_drew)); exact HO_152001.out) (by decide)) hk) (Kd.R_base ho0)) (fun _ h_ => h_.1))
     have n1_ := Aside0.mk (KeepBut.blk hk (g' := gb150) (o := .cells #[.int .i64 0, .slice none 0 0] 49 (0, 0)) (by (with_reducible repeat (first | refine blk_drewN ?_ _ | refine blk_drew ?_ | refine blk_alloc ?_ _)); exact BK150.out) NB150_0.out (by simp))
     have n2_ := Aside0.mk (KeepBut.blk hk (g' := gb151) (o := .cells #[.int .i64 a1, u152001] 49 (0, 0)) (by (with_reducible repeat (first | refine blk_drewN ?_ _ | refine blk_drew ?_ | refine blk_alloc ?_ _)); exact BK151.out) NB151_0.out (by simp))
     have n3_ := Aside0.mk (Kd.R_mono (Kd.R_told (Kd.R_oldK (IsS125.apart (show IsS125 w0 _ g s0_0 t156 from by repeat (first | (with_reducible first | exact HI0.out | apply IsS125.alloc | apply IsS125.drewN | apply IsS125.drew | apply IsS125.set_1 | refine IsS125.far ?_ NB0_150.out _ | refine IsS125.far ?_ NB0_151.out _) | exact HI0.out)) (by (with_reducible repeat (first | apply Kd.R_alloc | apply Kd.R_drewN | apply Kd.R_drew)); exact HO154.out) (by decide)) hk) (Kd.R_base ho0)) (fun _ h_ => h_.1))
     have n4_ := Aside0.mk (Kd.R_lower (Kd.R_new' ho0 (Kd.R_lt (by (with_reducible repeat (first | apply Kd.R_alloc | apply Kd.R_drewN | apply Kd.R_drew)); exact HO154.out))) (keep_size (w := w) (g := g) (row := none) (by repeat (first | (with_reducible first | exact HK.out | apply KeepBut.set_ | apply keep_drewN | apply keep_drew | apply keep_alloc | refine keep_far ?_ GW150.out _ | refine keep_far ?_ GW151.out _) | exact HK.out))))
     have n5_ := Aside0.mk (KeepBut.trans (by repeat (first | (with_reducible first | exact HK.out | apply KeepBut.set_ | apply keep_drewN | apply keep_drew | apply keep_alloc | refine keep_far ?_ GW150.out _ | refine keep_far ?_ GW151.out _) | exact HK.out)) hk (.inl rfl))
     have n6_ := Aside0.mk (hb)
     have n7_ := Aside0.mk (hi)
     clear HO_152001
     clear BK150
     clear BK151
     clear HO154
     clear HK
     clear HB
     clear HI0
     have HO_152001 := n0_
     have BK150 := n1_
     have BK151 := n2_
     have HO154 := n3_
     have HO159 := n4_
     have HK := n5_
     have HB := n6_
     have HI0 := n7_
     clear n0_ n1_ n2_ n3_ n4_ n5_ n6_ n7_
     (try clear hb)
     (try clear hb2)
     (try clear hk)
     (try clear hi)
     (try clear ho0)
     obtain ⟨Ao20, co20, eo20⟩ := Kd.R_slice HO159.out
     (first | subst eo20 | (injection eo20 with f1_ f2_ f3_; have f4_ := f1_.symm; have f5_ := f3_.symm; clear f1_ f2_ f3_; subst f4_; subst f5_))
     refine hK.out _ _ ⟨(blk_cell BK151.out 0).trans rfl, (blk_cell BK151.out 1).trans rfl⟩ (fun hHeld => ?_)
     clear hK K
     refine norm_ (a' := ?_) ?_ ?_
     rotate_left
     ·show Act.put _ (some 23) _ = _
      simp only [Act.put, List.setIfInBounds_toArray, List.set_cons_zero, List.set_cons_succ, i64_w, i32_w]
      rfl
     refine one_ (i := 8) (N := some 24) #[true, true, true, true, true, true, true, true, true, false, false, false] rfl rfl (one_of HT_.out (by kernel_rfl)) (by decide) (fun K hK => ?_)
     refine value_ (w1 := ?_) (v := ?_) (by rfl) rfl ?_ ?_
     rotate_left 2
     ·go_simp
      constructor
      ·rfl
      ·rfl
     refine hK.out _ _ ⟨(blk_cell (blk_alloc BK151.out _) 0).trans rfl, (blk_cell (blk_alloc BK151.out _) 1).trans rfl⟩ (fun hHeld => ?_)
     clear hK K
     refine norm_ (a' := ?_) ?_ ?_
     rotate_left
     ·show Act.put _ (some 24) _ = _
      simp only [Act.put, List.setIfInBounds_toArray, List.set_cons_zero, List.set_cons_succ, i64_w, i32_w]
      rfl
     refine one_ (i := 9) (N := some 25) #[true, true, true, true, true, true, true, true, true, true, false, false] rfl rfl (one_of HT_.out (by kernel_rfl)) (by decide) (fun K hK => ?_)
     refine Kd.S_append_step (Kd.slice 3 (Kd.int .i64)) w.heap.size (by rfl) (.tmp 17) (.tmp 24) 22 46 (.slice none 0 0) 24 rfl Try.underlying22 info46 rfl (by decide) (by omega) u152001 x152001_1 t157 [.slice Ao20 t157.length co20] (fun k_ => some k_ ≠ (.slice Ao16 y152.length co16 : Value).ownBlock) (fun k_ => some k_ = (.slice Ao20 t157.length co20 : Value).ownBlock) rfl rfl ?aP (fun k_ hk_ => ((Kd.R_mono (ok' := fun k_ => ((fun k_ => some k_ ≠ (.slice Ao16 y152.length co16 : Value).ownBlock)) k_ ∧ some k_ ≠ (u152001 : Value).ownBlock) (Kd.R_apart' (HO159.out) (Kd.S_typed HO_152001.out) (by decide)) (fun k_ hk => ⟨hk.1.2, hk.2⟩))).1 k_ hk_.symm) ?aF ?aO (Below.refl _ _) ?aS ?aL ?_
     (case aP => exact Kd.M_row (Kd.R_mono (Kd.R_tight rfl (Kd.R_mono (ok' := fun k_ => ((fun k_ => some k_ ≠ (.slice Ao16 y152.length co16 : Value).ownBlock)) k_ ∧ some k_ ≠ (u152001 : Value).ownBlock) (Kd.R_apart' (HO159.out) (Kd.S_typed HO_152001.out) (by decide)) (fun k_ hk => ⟨hk.1.2, hk.2⟩))) (fun _ h_ => h_)))
     (case aF => exact (fun k_ hk => Kd.fresh' (Kd.R_lt (by (with_reducible repeat (first | apply Kd.R_alloc | apply Kd.R_drewN | apply Kd.R_drew)); exact HO154.out)) k_ hk))
     (case aO => exact (by (with_reducible repeat (first | apply Kd.S_alloc | apply Kd.S_drewN | apply Kd.S_drew)); exact Kd.S_mono HO_152001.out (fun k_ hk => ⟨hk.1.2, fun e_ => hk.2 e_⟩)))
     (case aS => exact (keep_size (w := w) (g := g) (row := none) (by repeat (first | (with_reducible first | exact HK.out | apply KeepBut.set_ | apply keep_drewN | apply keep_drew | apply keep_alloc | refine keep_far ?_ GW150.out _ | refine keep_far ?_ GW151.out _) | exact HK.out))))
     (case aL => have := LMc12.out; omega)
     intro v162 w19 ho hb hg hat
     rw [← Ny161.out] at ho
     have n0_ := Aside0.mk (blk_grown (g := gb150) (o := .cells #[.int .i64 0, .slice none 0 0] 49 (0, 0)) (by (with_reducible repeat (first | refine blk_drewN ?_ _ | refine blk_drew ?_ | refine blk_alloc ?_ _)); exact BK150.out) hg (Kd.S_ne HO_152001.out BK150.out (by decide)))
     have n1_ := Aside0.mk (blk_grown (g := gb151) (o := .cells #[.int .i64 a1, u152001] 49 (0, 0)) (by (with_reducible repeat (first | refine blk_drewN ?_ _ | refine blk_drew ?_ | refine blk_alloc ?_ _)); exact BK151.out) hg (Kd.S_ne HO_152001.out BK151.out (by decide)))
     have n2_ := Aside0.mk (IsS125.grown (by repeat (first | (with_reducible first | exact HI0.out | apply IsS125.alloc | apply IsS125.drewN | apply IsS125.drew | apply IsS125.set_1 | refine IsS125.far ?_ NB0_150.out _ | refine IsS125.far ?_ NB0_151.out _) | exact HI0.out)) hg (IsS125.own_neS HI0.out HO_152001.out (by decide)))
     have n3_ := Aside0.mk (Kd.R_over' (by (with_reducible repeat (first | apply Kd.R_alloc | apply Kd.R_drewN | apply Kd.R_drew)); exact HO154.out) (Kd.S_typed (by (with_reducible repeat (first | apply Kd.S_alloc | apply Kd.S_drewN | apply Kd.S_drew)); exact HO_152001.out)) (by decide) hg)
     have n4_ := Aside0.mk (below_weaken (by repeat (first | (with_reducible first | exact HB.out | apply bwA | apply bwN | apply bwD | refine below_set ?_ (IsS125.ge HI0.out) | refine below_set ?_ GE150.out | refine below_set ?_ GE151.out) | exact HB.out)) HL.out hb)
     have n5_ := Aside0.mk (KeepBut.trans (by repeat (first | (with_reducible first | exact HK.out | apply KeepBut.set_ | apply keep_drewN | apply keep_drew | apply keep_alloc | refine keep_far ?_ GW150.out _ | refine keep_far ?_ GW151.out _) | exact HK.out)) (KeepBut.of_grown hg g) (Kd.S_base2 HO_152001.out))
     have n6_ := Aside0.mk (ho)
     clear BK150
     clear BK151
     clear HI0
     clear HO154
     clear HB
     clear HK
     clear HO_152001
     clear HO159
     have BK150 := n0_
     have BK151 := n1_
     have HI0 := n2_
     have HO154 := n3_
     have HB := n4_
     have HK := n5_
     have HO163 := n6_
     clear n0_ n1_ n2_ n3_ n4_ n5_ n6_
     clear ho hb hg hat
     obtain ⟨Ao21, co21, eo21⟩ := Kd.S_slice HO163.out
     (first | subst eo21 | (injection eo21 with f1_ f2_ f3_; have f4_ := f1_.symm; have f5_ := f3_.symm; clear f1_ f2_ f3_; subst f4_; subst f5_))
     refine hK.out _ _ ⟨(blk_cell BK151.out 0).trans rfl, (blk_cell BK151.out 1).trans rfl⟩ (fun hHeld => ?_)
     clear hK K
     refine norm_ (a' := ?_) ?_ ?_
     rotate_left
     ·show Act.put _ (some 25) _ = _
      simp only [Act.put, List.setIfInBounds_toArray, List.set_cons_zero, List.set_cons_succ, i64_w, i32_w]
      rfl
     refine pure_ (i := 10) (N := some 26) (v := ?_) (a' := ?_) #[true, true, true, true, true, true, true, true, true, true, true, false] rfl rfl (any_of HT_.out (by kernel_rfl)) (fun _ _ _ h => h) (Or.inl ⟨by rfl, ?_⟩) ?_ ?_
     rotate_left
     ·intro w'
      go_simp
      with_reducible rfl
     rotate_left
     ·simp only [Act.put, List.setIfInBounds_toArray, List.set_cons_zero, List.set_cons_succ, i64_w, i32_w]
      rfl
     refine last_ (i := 11) (N := none) #[true, true, true, true, true, true, true, true, true, true, true, true] rfl rfl (one_of HT_.out (by kernel_rfl)) (by decide) (fun K hK => ?_)
     have hs22 : w19.cell? ⟨gb151, 1, none⟩ = some (u152001) := (blk_cell BK151.out 1).trans rfl
     have hfs22 := blk_frozen BK151.out 1
     have hns22_0 := NB150_151.out
     have hms22_0 := NB151_150.out
     refine skip_ (w1 := ?_) (by rfl) rfl ?_ ?_
     rotate_left
     ·go_simp
      rfl
     refine hK.out _ _ ?_
     clear hK K
     refine done_ (done_of HT_.out (by kernel_rfl)) ?_
     try go_wp2
     go_roundg k1
     case measure => have := HK1.out; omega
     case rel => exact ⟨(wrap64 (x8_1 + 1)), (t160), (y161), (.slice Ao21 y161.length co21), (by first | rfl | (simp; done) | (simp [*]; done)), H', ⟨by have := HK1.out; omega⟩, ⟨by (with_reducible repeat (first | apply Kd.S_alloc | apply Kd.S_drewN | apply Kd.S_drew)); exact Kd.S_mono (Kd.S_far (p := ⟨gb151, 1, none⟩) (Kd.S_types HO163.out BK151.out (by decide)) (fun _ hk => hk.2) (.slice Ao21 y161.length co21)) (fun _ hk => trivial)⟩, ⟨by (with_reducible repeat (first | refine blk_drewN ?_ _ | refine blk_drew ?_ | refine blk_alloc ?_ _)); refine blk_far ?_ NB150_151.out _; (with_reducible repeat (first | refine blk_drewN ?_ _ | refine blk_drew ?_ | refine blk_alloc ?_ _)); exact BK150.out⟩, ⟨by (with_reducible repeat (first | refine blk_drewN ?_ _ | refine blk_drew ?_ | refine blk_alloc ?_ _)); refine blk_put (cs := #[.int .i64 a1, u152001]) ?_ 1 _ rfl; (with_reducible repeat (first | refine blk_drewN ?_ _ | refine blk_drew ?_ | refine blk_alloc ?_ _)); exact BK151.out⟩, ⟨by repeat (first | (with_reducible first | exact HI0.out | apply IsS125.alloc | apply IsS125.drewN | apply IsS125.drew | apply IsS125.set_1 | refine IsS125.far ?_ NB0_150.out _ | refine IsS125.far ?_ NB0_151.out _) | exact HI0.out)⟩, ⟨by repeat (first | (with_reducible first | exact HK.out | apply KeepBut.set_ | apply keep_drewN | apply keep_drew | apply keep_alloc | refine keep_far ?_ GW150.out _ | refine keep_far ?_ GW151.out _) | exact HK.out)⟩, ⟨by repeat (first | (with_reducible first | exact HB.out | apply bwA | apply bwN | apply bwD | refine below_set ?_ (IsS125.ge HI0.out) | refine below_set ?_ GE150.out | refine below_set ?_ GE151.out) | exact HB.out)⟩⟩
    ·rw [if_neg c12] at H
     exact absurd H (by simp)
   ·rw [if_neg c9] at H
    have c9b0 : decide (x8_1 < a2) = false := decide_eq_false c9
    clear c9
    simp only [Option.some.injEq, Prod.mk.injEq] at H
    obtain ⟨rfl, rfl, rfl⟩ := H
    have hnb23 := NB151_150.out
    have hnc23 := NB150_151.out
    have hnb24 := NB151_0.out
    have hnc24 := NB0_151.out
    have hcz25_0 : wr.cell? ⟨gb151, 0, none⟩ = some (.int .i64 a1) := (blk_cell BK151.out 0).trans rfl
    have hcz25_1 : wr.cell? ⟨gb151, 1, none⟩ = some (u152001) := (blk_cell BK151.out 1).trans rfl
    have hfz25_0 := blk_frozen BK151.out 0
    have hfz25_1 := blk_frozen BK151.out 1
    have hnb26 := NB150_0.out
    have hnc26 := NB0_150.out
    have hcz27_0 : wr.cell? ⟨gb150, 0, none⟩ = some (.int .i64 0) := (blk_cell BK150.out 0).trans rfl
    have hcz27_1 : wr.cell? ⟨gb150, 1, none⟩ = some (.slice none 0 0) := (blk_cell BK150.out 1).trans rfl
    have hfz27_0 := blk_frozen BK150.out 0
    have hfz27_1 := blk_frozen BK150.out 1
    obtain ⟨Ao28, co28, eo28⟩ := Kd.S_slice HO_152001.out
    subst eo28
    go_wp2
    refine bodyPost_ret (results_cell_row rfl _ _ gb150 49 #[.int .i64 a1, .slice Ao28 x152001_1.length co28] (0, 0) _ rfl (by (with_reducible repeat (first | refine blk_drewN ?_ _ | refine blk_drew ?_ | refine blk_alloc ?_ _)); refine blk_put (cs := #[.int .i64 a1, .slice none 0 0]) ?_ 1 _ rfl; (with_reducible repeat (first | refine blk_drewN ?_ _ | refine blk_drew ?_ | refine blk_alloc ?_ _)); refine blk_put (cs := #[.int .i64 0, .slice none 0 0]) ?_ 0 _ rfl; (with_reducible repeat (first | refine blk_drewN ?_ _ | refine blk_drew ?_ | refine blk_alloc ?_ _)); exact BK150.out) Try.underlying49 rfl (by kernel_rfl)) rfl ?_
    exact ⟨_, by first | rfl | (simp [errW_none, errW_some] <;> rfl) | (simp [*, errW_none, errW_some] <;> rfl), by (with_reducible repeat (first | apply Kd.S_alloc | apply Kd.S_drewN | apply Kd.S_drew)); exact Kd.S_mono (Kd.S_far (p := ⟨gb150, 1, none⟩) (Kd.S_far (p := ⟨gb150, 0, none⟩) (Kd.S_types HO_152001.out BK150.out (by decide)) (fun _ hk => hk.2) (.int .i64 a1)) (fun _ hk => hk.2) (.slice Ao28 x152001_1.length co28)) (fun _ hk => trivial), by repeat (first | (with_reducible first | exact HI0.out | apply IsS125.alloc | apply IsS125.drewN | apply IsS125.drew | apply IsS125.set_1 | refine IsS125.far ?_ NB0_150.out _ | refine IsS125.far ?_ NB0_151.out _) | exact HI0.out), by repeat (first | (with_reducible first | exact HB.out | apply bwA | apply bwN | apply bwD | refine below_set ?_ (IsS125.ge HI0.out) | refine below_set ?_ GE150.out | refine below_set ?_ GE151.out) | exact HB.out), by repeat (first | (with_reducible first | exact HK.out | apply KeepBut.set_ | apply keep_drewN | apply keep_drew | apply keep_alloc | refine keep_far ?_ GW150.out _ | refine keep_far ?_ GW151.out _) | exact HK.out)⟩

end Go.Proofs.Ytcmpngglnpjgdaa.QFnSharedAtoms
