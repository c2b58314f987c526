-- Written by a program of this session (mk.py). Lean checks it.
import Derived.Test.YtpcompnmadpljaaQFnDiagramOfx0
import Derived.Test.YtpcompnmadpljaaQFnDiagramOfx1
import Derived.Test.YtpcompnmadpljaaQFnDiagramOfx4
namespace Go.Proofs.Ytpcompnmadpljaa.QFnDiagramOf
open Go.RowKit Go.Proofs.YtpcompnmadpljaaW.PrintWords Go.Proofs.YtpcompnmadpljaaW.PrintLast Go.Proofs.YtpcompnmadpljaaW.PrintMore
attribute [local go_sem] max2_int min2_int max_two min_two max_three min_three max_four min_four   -- for this text's walks alone
set_option linter.unusedVariables false
set_option linter.unusedSimpArgs false

/-! ### impl_forkingOf: function 55 -/
def impl_forkingOf.seen (l : List S71) : Nat → S71 → Option Int
 | 0 => fun _ => none
 | i + 1 => fun y => if y = rd_T71 l (i : Int) then some ((i : Int) + 2) else impl_forkingOf.seen l i y
def impl_forkingOf.f (a0 : Int) (l : List S71) : Option FS := (impl_Fork_97.f l).bind fun l2 => if ∀ x ∈ l, okF x then some ⟨a0, l2, impl_forkingOf.seen l l.length, false, fun _ => none⟩ else none
set_option maxHeartbeats 4000000 in
set_option maxRecDepth 100000 in
theorem impl_forkingOf.calls (a0 : Int) (A : Option Addr) (c : Nat) (l : List S71) (s : FS) (w : World) (hr : Kd.C k71 w A l.length l) (hc : l.length ≤ c) (h : impl_forkingOf.f a0 l = some s) :
  Calls Try.prog 55 #[.agg #[.int .i64 a0, .slice A l.length c]] w fun e w' => ∃ g, e = .returned (.pointer (some ⟨g, 0, none⟩)) ∧ IsF w' w.heap.size (fun k => w.heap.size ≤ k) g s ∧ Below w.heap.size w w' := by
 have hu25 := Try.underlying25
 have hu71 := Try.underlying71
 have hu113 := Try.underlying113
 unfold impl_forkingOf.f at h
 obtain ⟨l2, h1, h2⟩ := Option.bind_eq_some_iff.mp h
 clear h
 by_cases c1 : ∀ x ∈ l, okF x
 ·rw [if_pos c1] at h2
  obtain rfl := Option.some.inj h2
  have HR := Aside0.mk hr
  have HC := Aside0.mk hc
  have H1 := Aside0.mk h1
  have C1 := Aside0.mk c1
  have HL := Aside0.mk (show l.length < 9000000000000 by
   unfold impl_Fork_97.f at h1
   simp only [Option.bind_some, List.length_nil, Nat.zero_add] at h1
   split at h1
   ·omega
   ·cases h1)
  clear hr hc h1 h2 c1
  go_enter Try.func55, Try.ntmps55
  go_wp2_with ((with_reducible refine gate_dst (N := 1) rfl ?_); refine box_event ?hg (N := 1) ?hd (cs := #[.int .i64 a0, .slice A l.length c]) (t := 25) ?hr ?_; (case hd => rfl); (case hg => rfl); (case hr => first | (go_simp; done) | (go_simp; rfl)); intro g0 hg0 w3 hbox hb; have BX0 := Aside0.mk hbox; have HB3 := Aside0.mk hb; clear hg0 hbox hb)
  refine start_ (n := 11) (S := fun w' => w'.cell? ⟨g0, 0, none⟩ = some (.int .i64 a0) ∧ w'.cell? ⟨g0, 1, none⟩ = some (.slice A l.length c)) (ds := []) (Pt.bm 11 0) (by kernel_rfl) rfl rfl ⟨(blk_cell BX0.out 0).trans rfl, (blk_cell BX0.out 1).trans rfl⟩ (fun hHeld => ?_)
  have HB4 := Aside0.mk (below_step HB3.out (below_drew (Below.refl _ _)))
  have BX4 := Aside0.mk (blk_drew BX0.out)
  generalize w3.drew = w4 at HB4 BX4 hHeld ⊢
  clear HB3 BX0
  refine Pt.pu 0 (some 6) (Pt.bm 11 1) (by kernel_rfl) ?_
  refine Pt.tk 1 (some 7) (Pt.bm 11 3) rfl rfl (by kernel_rfl) hHeld (Or.inl ⟨by rfl, by rintro w' ⟨s0, s1⟩; go_simp; with_reducible rfl⟩) ?_
  refine Pt.pu 2 (some 8) (Pt.bm 11 7) (by kernel_rfl) ?_
  refine Pt.tk 3 (some 9) (Pt.bm 11 15) rfl rfl (by kernel_rfl) hHeld (Or.inl ⟨by rfl, by rintro w' ⟨s0, s1⟩; go_simp; with_reducible rfl⟩) ?_
  refine join_ (σ := Value × Nat × Nat) 3 (Pt.bm 11 255) (fun s_ => [(10, s_.1), (11, .agg #[.int .i64 a0, s_.1]), (12, .map (some s_.2.1)), (13, .map (some s_.2.2))]) (fun s_ w' => Kd.R k71 71 w' w.heap.size (fun k => w.heap.size ≤ k) s_.1 l2 ∧ Mp.Is ekF okF (Value.int .i64) w' s_.2.1 (fun _ => none) ∧ Mp.Is ek3 ok3 (Value.int .i64) w' s_.2.2 (fun _ => none) ∧ s_.2.1 ≠ s_.2.2 ∧ w.heap.size ≤ s_.2.1 ∧ w.heap.size ≤ s_.2.2 ∧ Below w.heap.size w w' ∧ w'.heap[g0]? = some (.cells #[.int .i64 a0, .slice A l.length c] 25 (0, 0))) ?_ ?_
  rotate_left
  ·intro hCont
   refine three_ (i := 4) (j := 6) (k := 7) (Ni := some 10) (Nj := some 12) (Nk := some 13) (Pt.bm 11 31) (Pt.bm 11 79) (Pt.bm 11 143) rfl rfl rfl rfl rfl rfl (by kernel_rfl) (by decide) (by decide) (by decide) (fun K hK => ?_) (fun K hK => ?_) (fun K hK => ?_)
   ·skip
    refine goes_ Try.func97 (by kernel_rfl) rfl #[.slice A l.length c] (by rfl) rfl rfl (by (try simp only [List.map_toArray, List.map_cons, List.map_nil]); first | done | rfl) ?_
    refine (impl_Fork_97.calls A c l l2 _ (Kd.C_below HR.out HB4.out) HC.out H1.out).mono ?_
    rintro e w4 ⟨v4, rfl, hRv, hb⟩
    refine ⟨_, rfl, ?_⟩
    have R4 := Aside0.mk (Kd.R_mono (Kd.R_bound (Kd.R_lower hRv HB4.out.size)) (fun k hk => hk.2.1))
    obtain ⟨A4, c4, e4⟩ := Kd.R_slice hRv
    subst e4
    have HB4 := Aside0.mk (below_step HB4.out hb)
    have BX4 := Aside0.mk (blk_below BX4.out hb)
    refine hK.out _ _ ⟨(blk_cell BX4.out 0).trans rfl, (blk_cell BX4.out 1).trans rfl⟩ (fun hHeld => ?_)
    clear hK K hb
    refine norm_ (a' := ?_) ?_ ?_
    rotate_left
    ·show Act.put _ (some 10) _ = _
     simp only [Act.put, List.setIfInBounds_toArray, List.set_cons_zero, List.set_cons_succ, i64_w, i32_w]
     rfl
    refine Pt.pu 5 (some 11) (Pt.bm 11 63) (by kernel_rfl) ?_
    refine two_ (i := 6) (j := 7) (Ni := some 12) (Nj := some 13) (Pt.bm 11 127) (Pt.bm 11 191) rfl rfl rfl rfl (by kernel_rfl) (by decide) (by decide) (fun K hK => ?_) (fun K hK => ?_)
    ·skip
     refine value_ (w1 := w4.alloc (.map #[] 0)) (v := .map (some w4.heap.size)) (by rfl) rfl rfl ?_
     have hb := below_alloc (Below.refl w4.heap.size w4) (.map #[] 0)
     have M64 := Aside0.mk (Mp.Is.made ekF okF (Value.int .i64) w4)
     have G64 := Aside0.mk HB4.out.size
     have HB64 := Aside0.mk (below_step HB4.out hb)
     have BX64 := Aside0.mk (blk_below BX4.out hb)
     have R64 := Aside0.mk (Kd.R_below R4.out hb)
     refine hK.out _ _ ⟨(blk_cell BX64.out 0).trans rfl, (blk_cell BX64.out 1).trans rfl⟩ (fun hHeld => ?_)
     clear hK K hb
     refine norm_ (a' := ?_) ?_ ?_
     rotate_left
     ·show Act.put _ (some 12) _ = _
      simp only [Act.put, List.setIfInBounds_toArray, List.set_cons_zero, List.set_cons_succ, i64_w, i32_w]
      rfl
     refine one_ (i := 7) (N := some 13) (Pt.bm 11 255) rfl rfl (by kernel_rfl) (by decide) (fun K hK => ?_)
     have NE := Aside0.mk (Nat.ne_of_lt M64.out.lt)
     refine value_ (w1 := (w4.alloc (.map #[] 0)).alloc (.map #[] 0)) (v := .map (some (w4.alloc (.map #[] 0)).heap.size)) (by rfl) rfl rfl ?_
     have hb := below_alloc (Below.refl (w4.alloc (.map #[] 0)).heap.size (w4.alloc (.map #[] 0))) (.map #[] 0)
     have M746 := Aside0.mk (Mp.Is.made ek3 ok3 (Value.int .i64) (w4.alloc (.map #[] 0)))
     have G746 := Aside0.mk HB64.out.size
     have HB746 := Aside0.mk (below_step HB64.out hb)
     have BX746 := Aside0.mk (blk_below BX64.out hb)
     have X746 := Aside0.mk (M64.out.below hb)
     have R746 := Aside0.mk (Kd.R_below R64.out hb)
     refine hK.out _ _ ⟨(blk_cell BX746.out 0).trans rfl, (blk_cell BX746.out 1).trans rfl⟩ (fun hHeld => ?_)
     clear hK K hb
     refine norm_ (a' := ?_) ?_ ?_
     rotate_left
     ·show Act.put _ (some 13) _ = _
      simp only [Act.put, List.setIfInBounds_toArray, List.set_cons_zero, List.set_cons_succ, i64_w, i32_w]
      rfl
     exact norm_ (by simp only [putAll, Act.put, List.setIfInBounds_toArray, List.set_cons_zero, List.set_cons_succ]) (hCont ((.slice A4 l2.length c4), w4.heap.size, (w4.alloc (.map #[] 0)).heap.size) _ ⟨R746.out, X746.out, M746.out, NE.out, G64.out, G746.out, HB746.out, BX746.out⟩)
    ·skip
     refine value_ (w1 := w4.alloc (.map #[] 0)) (v := .map (some w4.heap.size)) (by rfl) rfl rfl ?_
     have hb := below_alloc (Below.refl w4.heap.size w4) (.map #[] 0)
     have M74 := Aside0.mk (Mp.Is.made ek3 ok3 (Value.int .i64) w4)
     have G74 := Aside0.mk HB4.out.size
     have HB74 := Aside0.mk (below_step HB4.out hb)
     have BX74 := Aside0.mk (blk_below BX4.out hb)
     have R74 := Aside0.mk (Kd.R_below R4.out hb)
     refine hK.out _ _ ⟨(blk_cell BX74.out 0).trans rfl, (blk_cell BX74.out 1).trans rfl⟩ (fun hHeld => ?_)
     clear hK K hb
     refine norm_ (a' := ?_) ?_ ?_
     rotate_left
     ·show Act.put _ (some 13) _ = _
      simp only [Act.put, List.setIfInBounds_toArray, List.set_cons_zero, List.set_cons_succ, i64_w, i32_w]
      rfl
     refine one_ (i := 6) (N := some 12) (Pt.bm 11 255) rfl rfl (by kernel_rfl) (by decide) (fun K hK => ?_)
     have NE := Aside0.mk (Nat.ne_of_gt M74.out.lt)
     refine value_ (w1 := (w4.alloc (.map #[] 0)).alloc (.map #[] 0)) (v := .map (some (w4.alloc (.map #[] 0)).heap.size)) (by rfl) rfl rfl ?_
     have hb := below_alloc (Below.refl (w4.alloc (.map #[] 0)).heap.size (w4.alloc (.map #[] 0))) (.map #[] 0)
     have M647 := Aside0.mk (Mp.Is.made ekF okF (Value.int .i64) (w4.alloc (.map #[] 0)))
     have G647 := Aside0.mk HB74.out.size
     have HB647 := Aside0.mk (below_step HB74.out hb)
     have BX647 := Aside0.mk (blk_below BX74.out hb)
     have Y647 := Aside0.mk (M74.out.below hb)
     have R647 := Aside0.mk (Kd.R_below R74.out hb)
     refine hK.out _ _ ⟨(blk_cell BX647.out 0).trans rfl, (blk_cell BX647.out 1).trans rfl⟩ (fun hHeld => ?_)
     clear hK K hb
     refine norm_ (a' := ?_) ?_ ?_
     rotate_left
     ·show Act.put _ (some 12) _ = _
      simp only [Act.put, List.setIfInBounds_toArray, List.set_cons_zero, List.set_cons_succ, i64_w, i32_w]
      rfl
     exact norm_ (by simp only [putAll, Act.put, List.setIfInBounds_toArray, List.set_cons_zero, List.set_cons_succ]) (hCont ((.slice A4 l2.length c4), (w4.alloc (.map #[] 0)).heap.size, w4.heap.size) _ ⟨R647.out, M647.out, Y647.out, NE.out, G647.out, G74.out, HB647.out, BX647.out⟩)
   ·skip
    refine value_ (w1 := w4.alloc (.map #[] 0)) (v := .map (some w4.heap.size)) (by rfl) rfl rfl ?_
    have hb := below_alloc (Below.refl w4.heap.size w4) (.map #[] 0)
    have M6 := Aside0.mk (Mp.Is.made ekF okF (Value.int .i64) w4)
    have G6 := Aside0.mk HB4.out.size
    have HB6 := Aside0.mk (below_step HB4.out hb)
    have BX6 := Aside0.mk (blk_below BX4.out hb)
    refine hK.out _ _ ⟨(blk_cell BX6.out 0).trans rfl, (blk_cell BX6.out 1).trans rfl⟩ (fun hHeld => ?_)
    clear hK K hb
    refine norm_ (a' := ?_) ?_ ?_
    rotate_left
    ·show Act.put _ (some 12) _ = _
     simp only [Act.put, List.setIfInBounds_toArray, List.set_cons_zero, List.set_cons_succ, i64_w, i32_w]
     rfl
    refine two_ (i := 4) (j := 7) (Ni := some 10) (Nj := some 13) (Pt.bm 11 95) (Pt.bm 11 207) rfl rfl rfl rfl (by kernel_rfl) (by decide) (by decide) (fun K hK => ?_) (fun K hK => ?_)
    ·skip
     refine goes_ Try.func97 (by kernel_rfl) rfl #[.slice A l.length c] (by rfl) rfl rfl (by (try simp only [List.map_toArray, List.map_cons, List.map_nil]); first | done | rfl) ?_
     refine (impl_Fork_97.calls A c l l2 _ (Kd.C_below HR.out HB6.out) HC.out H1.out).mono ?_
     rintro e w46 ⟨v46, rfl, hRv, hb⟩
     refine ⟨_, rfl, ?_⟩
     have R46 := Aside0.mk (Kd.R_mono (Kd.R_bound (Kd.R_lower hRv HB6.out.size)) (fun k hk => hk.2.1))
     obtain ⟨A46, c46, e46⟩ := Kd.R_slice hRv
     subst e46
     have HB46 := Aside0.mk (below_step HB6.out hb)
     have BX46 := Aside0.mk (blk_below BX6.out hb)
     have X46 := Aside0.mk (M6.out.below hb)
     refine hK.out _ _ ⟨(blk_cell BX46.out 0).trans rfl, (blk_cell BX46.out 1).trans rfl⟩ (fun hHeld => ?_)
     clear hK K hb
     refine norm_ (a' := ?_) ?_ ?_
     rotate_left
     ·show Act.put _ (some 10) _ = _
      simp only [Act.put, List.setIfInBounds_toArray, List.set_cons_zero, List.set_cons_succ, i64_w, i32_w]
      rfl
     refine Pt.pu 5 (some 11) (Pt.bm 11 127) (by kernel_rfl) ?_
     refine one_ (i := 7) (N := some 13) (Pt.bm 11 255) rfl rfl (by kernel_rfl) (by decide) (fun K hK => ?_)
     have NE := Aside0.mk (Nat.ne_of_lt X46.out.lt)
     refine value_ (w1 := w46.alloc (.map #[] 0)) (v := .map (some w46.heap.size)) (by rfl) rfl rfl ?_
     have hb := below_alloc (Below.refl w46.heap.size w46) (.map #[] 0)
     have M764 := Aside0.mk (Mp.Is.made ek3 ok3 (Value.int .i64) w46)
     have G764 := Aside0.mk HB46.out.size
     have HB764 := Aside0.mk (below_step HB46.out hb)
     have BX764 := Aside0.mk (blk_below BX46.out hb)
     have R764 := Aside0.mk (Kd.R_below R46.out hb)
     have X764 := Aside0.mk (X46.out.below hb)
     refine hK.out _ _ ⟨(blk_cell BX764.out 0).trans rfl, (blk_cell BX764.out 1).trans rfl⟩ (fun hHeld => ?_)
     clear hK K hb
     refine norm_ (a' := ?_) ?_ ?_
     rotate_left
     ·show Act.put _ (some 13) _ = _
      simp only [Act.put, List.setIfInBounds_toArray, List.set_cons_zero, List.set_cons_succ, i64_w, i32_w]
      rfl
     exact norm_ (by simp only [putAll, Act.put, List.setIfInBounds_toArray, List.set_cons_zero, List.set_cons_succ]) (hCont ((.slice A46 l2.length c46), w4.heap.size, w46.heap.size) _ ⟨R764.out, X764.out, M764.out, NE.out, G6.out, G764.out, HB764.out, BX764.out⟩)
    ·skip
     have NE := Aside0.mk (Nat.ne_of_lt M6.out.lt)
     refine value_ (w1 := (w4.alloc (.map #[] 0)).alloc (.map #[] 0)) (v := .map (some (w4.alloc (.map #[] 0)).heap.size)) (by rfl) rfl rfl ?_
     have hb := below_alloc (Below.refl (w4.alloc (.map #[] 0)).heap.size (w4.alloc (.map #[] 0))) (.map #[] 0)
     have M76 := Aside0.mk (Mp.Is.made ek3 ok3 (Value.int .i64) (w4.alloc (.map #[] 0)))
     have G76 := Aside0.mk HB6.out.size
     have HB76 := Aside0.mk (below_step HB6.out hb)
     have BX76 := Aside0.mk (blk_below BX6.out hb)
     have X76 := Aside0.mk (M6.out.below hb)
     refine hK.out _ _ ⟨(blk_cell BX76.out 0).trans rfl, (blk_cell BX76.out 1).trans rfl⟩ (fun hHeld => ?_)
     clear hK K hb
     refine norm_ (a' := ?_) ?_ ?_
     rotate_left
     ·show Act.put _ (some 13) _ = _
      simp only [Act.put, List.setIfInBounds_toArray, List.set_cons_zero, List.set_cons_succ, i64_w, i32_w]
      rfl
     refine one_ (i := 4) (N := some 10) (Pt.bm 11 223) rfl rfl (by kernel_rfl) (by decide) (fun K hK => ?_)
     refine goes_ Try.func97 (by kernel_rfl) rfl #[.slice A l.length c] (by rfl) rfl rfl (by (try simp only [List.map_toArray, List.map_cons, List.map_nil]); first | done | rfl) ?_
     refine (impl_Fork_97.calls A c l l2 _ (Kd.C_below HR.out HB76.out) HC.out H1.out).mono ?_
     rintro e w467 ⟨v467, rfl, hRv, hb⟩
     refine ⟨_, rfl, ?_⟩
     have R467 := Aside0.mk (Kd.R_mono (Kd.R_bound (Kd.R_lower hRv HB76.out.size)) (fun k hk => hk.2.1))
     obtain ⟨A467, c467, e467⟩ := Kd.R_slice hRv
     subst e467
     have HB467 := Aside0.mk (below_step HB76.out hb)
     have BX467 := Aside0.mk (blk_below BX76.out hb)
     have Y467 := Aside0.mk (M76.out.below hb)
     have X467 := Aside0.mk (X76.out.below hb)
     refine hK.out _ _ ⟨(blk_cell BX467.out 0).trans rfl, (blk_cell BX467.out 1).trans rfl⟩ (fun hHeld => ?_)
     clear hK K hb
     refine norm_ (a' := ?_) ?_ ?_
     rotate_left
     ·show Act.put _ (some 10) _ = _
      simp only [Act.put, List.setIfInBounds_toArray, List.set_cons_zero, List.set_cons_succ, i64_w, i32_w]
      rfl
     refine Pt.pu 5 (some 11) (Pt.bm 11 255) (by kernel_rfl) ?_
     exact norm_ (by simp only [putAll, Act.put, List.setIfInBounds_toArray, List.set_cons_zero, List.set_cons_succ]) (hCont ((.slice A467 l2.length c467), w4.heap.size, (w4.alloc (.map #[] 0)).heap.size) _ ⟨R467.out, X467.out, Y467.out, NE.out, G6.out, G76.out, HB467.out, BX467.out⟩)
   ·skip
    refine value_ (w1 := w4.alloc (.map #[] 0)) (v := .map (some w4.heap.size)) (by rfl) rfl rfl ?_
    have hb := below_alloc (Below.refl w4.heap.size w4) (.map #[] 0)
    have M7 := Aside0.mk (Mp.Is.made ek3 ok3 (Value.int .i64) w4)
    have G7 := Aside0.mk HB4.out.size
    have HB7 := Aside0.mk (below_step HB4.out hb)
    have BX7 := Aside0.mk (blk_below BX4.out hb)
    refine hK.out _ _ ⟨(blk_cell BX7.out 0).trans rfl, (blk_cell BX7.out 1).trans rfl⟩ (fun hHeld => ?_)
    clear hK K hb
    refine norm_ (a' := ?_) ?_ ?_
    rotate_left
    ·show Act.put _ (some 13) _ = _
     simp only [Act.put, List.setIfInBounds_toArray, List.set_cons_zero, List.set_cons_succ, i64_w, i32_w]
     rfl
    refine two_ (i := 4) (j := 6) (Ni := some 10) (Nj := some 12) (Pt.bm 11 159) (Pt.bm 11 207) rfl rfl rfl rfl (by kernel_rfl) (by decide) (by decide) (fun K hK => ?_) (fun K hK => ?_)
    ·skip
     refine goes_ Try.func97 (by kernel_rfl) rfl #[.slice A l.length c] (by rfl) rfl rfl (by (try simp only [List.map_toArray, List.map_cons, List.map_nil]); first | done | rfl) ?_
     refine (impl_Fork_97.calls A c l l2 _ (Kd.C_below HR.out HB7.out) HC.out H1.out).mono ?_
     rintro e w47 ⟨v47, rfl, hRv, hb⟩
     refine ⟨_, rfl, ?_⟩
     have R47 := Aside0.mk (Kd.R_mono (Kd.R_bound (Kd.R_lower hRv HB7.out.size)) (fun k hk => hk.2.1))
     obtain ⟨A47, c47, e47⟩ := Kd.R_slice hRv
     subst e47
     have HB47 := Aside0.mk (below_step HB7.out hb)
     have BX47 := Aside0.mk (blk_below BX7.out hb)
     have Y47 := Aside0.mk (M7.out.below hb)
     refine hK.out _ _ ⟨(blk_cell BX47.out 0).trans rfl, (blk_cell BX47.out 1).trans rfl⟩ (fun hHeld => ?_)
     clear hK K hb
     refine norm_ (a' := ?_) ?_ ?_
     rotate_left
     ·show Act.put _ (some 10) _ = _
      simp only [Act.put, List.setIfInBounds_toArray, List.set_cons_zero, List.set_cons_succ, i64_w, i32_w]
      rfl
     refine Pt.pu 5 (some 11) (Pt.bm 11 191) (by kernel_rfl) ?_
     refine one_ (i := 6) (N := some 12) (Pt.bm 11 255) rfl rfl (by kernel_rfl) (by decide) (fun K hK => ?_)
     have NE := Aside0.mk (Nat.ne_of_gt Y47.out.lt)
     refine value_ (w1 := w47.alloc (.map #[] 0)) (v := .map (some w47.heap.size)) (by rfl) rfl rfl ?_
     have hb := below_alloc (Below.refl w47.heap.size w47) (.map #[] 0)
     have M674 := Aside0.mk (Mp.Is.made ekF okF (Value.int .i64) w47)
     have G674 := Aside0.mk HB47.out.size
     have HB674 := Aside0.mk (below_step HB47.out hb)
     have BX674 := Aside0.mk (blk_below BX47.out hb)
     have R674 := Aside0.mk (Kd.R_below R47.out hb)
     have Y674 := Aside0.mk (Y47.out.below hb)
     refine hK.out _ _ ⟨(blk_cell BX674.out 0).trans rfl, (blk_cell BX674.out 1).trans rfl⟩ (fun hHeld => ?_)
     clear hK K hb
     refine norm_ (a' := ?_) ?_ ?_
     rotate_left
     ·show Act.put _ (some 12) _ = _
      simp only [Act.put, List.setIfInBounds_toArray, List.set_cons_zero, List.set_cons_succ, i64_w, i32_w]
      rfl
     exact norm_ (by simp only [putAll, Act.put, List.setIfInBounds_toArray, List.set_cons_zero, List.set_cons_succ]) (hCont ((.slice A47 l2.length c47), w47.heap.size, w4.heap.size) _ ⟨R674.out, M674.out, Y674.out, NE.out, G674.out, G7.out, HB674.out, BX674.out⟩)
    ·skip
     have NE := Aside0.mk (Nat.ne_of_gt M7.out.lt)
     refine value_ (w1 := (w4.alloc (.map #[] 0)).alloc (.map #[] 0)) (v := .map (some (w4.alloc (.map #[] 0)).heap.size)) (by rfl) rfl rfl ?_
     have hb := below_alloc (Below.refl (w4.alloc (.map #[] 0)).heap.size (w4.alloc (.map #[] 0))) (.map #[] 0)
     have M67 := Aside0.mk (Mp.Is.made ekF okF (Value.int .i64) (w4.alloc (.map #[] 0)))
     have G67 := Aside0.mk HB7.out.size
     have HB67 := Aside0.mk (below_step HB7.out hb)
     have BX67 := Aside0.mk (blk_below BX7.out hb)
     have Y67 := Aside0.mk (M7.out.below hb)
     refine hK.out _ _ ⟨(blk_cell BX67.out 0).trans rfl, (blk_cell BX67.out 1).trans rfl⟩ (fun hHeld => ?_)
     clear hK K hb
     refine norm_ (a' := ?_) ?_ ?_
     rotate_left
     ·show Act.put _ (some 12) _ = _
      simp only [Act.put, List.setIfInBounds_toArray, List.set_cons_zero, List.set_cons_succ, i64_w, i32_w]
      rfl
     refine one_ (i := 4) (N := some 10) (Pt.bm 11 223) rfl rfl (by kernel_rfl) (by decide) (fun K hK => ?_)
     refine goes_ Try.func97 (by kernel_rfl) rfl #[.slice A l.length c] (by rfl) rfl rfl (by (try simp only [List.map_toArray, List.map_cons, List.map_nil]); first | done | rfl) ?_
     refine (impl_Fork_97.calls A c l l2 _ (Kd.C_below HR.out HB67.out) HC.out H1.out).mono ?_
     rintro e w476 ⟨v476, rfl, hRv, hb⟩
     refine ⟨_, rfl, ?_⟩
     have R476 := Aside0.mk (Kd.R_mono (Kd.R_bound (Kd.R_lower hRv HB67.out.size)) (fun k hk => hk.2.1))
     obtain ⟨A476, c476, e476⟩ := Kd.R_slice hRv
     subst e476
     have HB476 := Aside0.mk (below_step HB67.out hb)
     have BX476 := Aside0.mk (blk_below BX67.out hb)
     have X476 := Aside0.mk (M67.out.below hb)
     have Y476 := Aside0.mk (Y67.out.below hb)
     refine hK.out _ _ ⟨(blk_cell BX476.out 0).trans rfl, (blk_cell BX476.out 1).trans rfl⟩ (fun hHeld => ?_)
     clear hK K hb
     refine norm_ (a' := ?_) ?_ ?_
     rotate_left
     ·show Act.put _ (some 10) _ = _
      simp only [Act.put, List.setIfInBounds_toArray, List.set_cons_zero, List.set_cons_succ, i64_w, i32_w]
      rfl
     refine Pt.pu 5 (some 11) (Pt.bm 11 255) (by kernel_rfl) ?_
     exact norm_ (by simp only [putAll, Act.put, List.setIfInBounds_toArray, List.set_cons_zero, List.set_cons_succ]) (hCont ((.slice A476 l2.length c476), (w4.alloc (.map #[] 0)).heap.size, w4.heap.size) _ ⟨R476.out, X476.out, Y476.out, NE.out, G67.out, G7.out, HB476.out, BX476.out⟩)
  rintro ⟨v0, b1, b2⟩ w5 ⟨hRv, hm1, hm2, hne, hb1, hb2, hb, hbx⟩
  obtain ⟨A5, c5, rfl⟩ := Kd.R_slice hRv
  refine norm_ (a' := ?_) ?_ ?_
  rotate_left
  ·simp only [putAll, Act.put, List.setIfInBounds_toArray, List.set_cons_zero, List.set_cons_succ]
   rfl
  have HR5 := Aside0.mk hRv
  have M5 := Aside0.mk hm1
  have M5b := Aside0.mk hm2
  have KS := Aside0.mk (And.intro hne (And.intro hb1 hb2))
  have HB5 := Aside0.mk hb
  have BX5 := Aside0.mk hbx
  clear hRv hm1 hm2 hne hb1 hb2 hb hbx hHeld HB4 BX4
  refine Pt.pu 8 (some 14) (Pt.bm 11 511) (by kernel_rfl) ?_
  refine one_ (i := 9) (N := some 15) (Pt.bm 11 1023) rfl rfl (by kernel_rfl) (by decide) (fun K hK => ?_)
  refine box_step (by rfl) (N := 15) rfl (cs := #[.int .i64 a0, .slice A5 l2.length c5, .map (some b1), .bool false, .map (some b2)]) (t := 113) ?hr ?_
  case hr => first | (go_simp; done) | (go_simp; rfl)
  intro g hg w6 hbox hb
  have BG6 := Aside0.mk hbox
  have HG := Aside0.mk (show w.heap.size ≤ g by rw [hg]; exact HB5.out.size)
  have BX6 := Aside0.mk (blk_below BX5.out hb)
  have HR6 := Aside0.mk (Kd.R_below HR5.out hb)
  have M6 := Aside0.mk (M5.out.below hb)
  have M6b := Aside0.mk (M5b.out.below hb)
  have HB6 := Aside0.mk (below_step HB5.out hb)
  refine hK.out _ _ ⟨(blk_cell BX6.out 0).trans rfl, (blk_cell BX6.out 1).trans rfl⟩ (fun hHeld => ?_)
  clear hK K hb hbox hg HB5 BX5 HR5 M5 M5b
  refine norm_ (a' := ?_) ?_ ?_
  rotate_left
  ·show Act.put _ (some 15) _ = _
   simp only [Act.put, List.setIfInBounds_toArray, List.set_cons_zero, List.set_cons_succ, i64_w, i32_w]
   rfl
  refine Pt.pu 10 (some 3) (Pt.bm 11 2047) (by kernel_rfl) ?_
  refine done_ (by kernel_rfl) ?_
  have hx1 : w6.cell? ⟨g0, 1, none⟩ = some (.slice A l.length c) := (blk_cell BX6.out 1).trans rfl
  clear hHeld
  go_wp2
  clear hx1
  go_loopg [19] l.length (fun gg s19 wr => ∃ (i : Nat), s19 = .int .i64 (i : Int) ∧ Aside0 (i + gg = l.length) ∧ Aside0 (wr.heap[g]? = some (.cells #[.int .i64 a0, .slice A5 l2.length c5, .map (some b1), .bool false, .map (some b2)] 113 (0, 0))) ∧ Aside0 (Kd.R k71 71 wr w.heap.size (fun k => w.heap.size ≤ k) (.slice A5 l2.length c5) l2) ∧ Aside0 (Mp.Is ekF okF (Value.int .i64) wr b1 (impl_forkingOf.seen l i)) ∧ Aside0 (Mp.Is ek3 ok3 (Value.int .i64) wr b2 (fun _ => none)) ∧ Aside0 (Below w.heap.size w wr))
  case atStart => exact ⟨0, rfl, ⟨by omega⟩, BG6, HR6, M6, M6b, HB6⟩
  case round =>
   clear BG6 BX6 HR6 M6 M6b HB6
   obtain ⟨i, rfl, HI, BG, HRr, M, Mb, HB⟩ := hrel
   by_cases c2 : i < l.length
   ·obtain ⟨k1, rfl⟩ : ∃ k1, gk = k1 + 1 := ⟨gk - 1, by have := HI.out; omega⟩
    have c2a : (i : Int) < (l.length : Int) := by omega
    have c2b : decide ((i : Int) < (l.length : Int)) = true := decide_eq_true c2a
    have c2c : (0 : Int) ≤ (i : Int) := by omega
    have c2d : decide ((0 : Int) ≤ (i : Int)) = true := decide_eq_true c2c
    obtain ⟨ad, rfl, hx0, hx1, hx2⟩ := at_T71 HR.out (i : Int) c2c c2a
    have OK := Aside0.mk (C1.out (rd_T71 l (i : Int)) (by unfold rd_T71; rw [List.getD_eq_getElem?_getD, Int.toNat_natCast, List.getElem?_eq_getElem c2]; exact List.getElem_mem c2))
    obtain ⟨x, hx⟩ : ∃ x, rd_T71 l (i : Int) = x := ⟨_, rfl⟩
    rw [hx] at hx0 hx1 hx2 OK
    simp only [Int.toNat_natCast] at hx0 hx1 hx2
    have HX := Aside0.mk hx
    replace hx0 := bct HB.out hx0
    replace hx1 := bct HB.out hx1
    replace hx2 := bct HB.out hx2
    have hw1 : wrap64 ((i : Int) + 2) = (i : Int) + 2 := by have := HL.out; unfold wrap64; omega
    have hw1' : (IntKind.i64.wrap ((i : Int) + 2)) = (i : Int) + 2 := (i64_w _).trans hw1
    have hw2 : wrap64 ((i : Int) + 1) = (i : Int) + 1 := by have := HL.out; unfold wrap64; omega
    have hw2' : (IntKind.i64.wrap ((i : Int) + 1)) = (i : Int) + 1 := (i64_w _).trans hw2
    clear hx
    go_wp2_with ((with_reducible refine gate_dst (N := 5) rfl ?_); refine box_event ?hg (N := 5) ?hd (cs := #[.int .i64 0, .int .i64 0, .int .i64 0]) (t := 71) ?hr ?_; (case hd => rfl); (case hg => rfl); (case hr => first | (go_simp; done) | (go_simp; rfl)); intro gb hgb w7 hbox hb; have BX0 := Aside0.mk hbox; have HB7 := Aside0.mk hb; have hz0 : w7.cell? ⟨gb, 0, none⟩ = some (.int .i64 0) := (blk_cell BX0.out 0).trans rfl; have hz1 : w7.cell? ⟨gb, 1, none⟩ = some (.int .i64 0) := (blk_cell BX0.out 1).trans rfl; have hz2 : w7.cell? ⟨gb, 2, none⟩ = some (.int .i64 0) := (blk_cell BX0.out 2).trans rfl; have hy0 := blk_frozen BX0.out 0; have hy1 := blk_frozen BX0.out 1; have hy2 := blk_frozen BX0.out 2; have HGB := Aside0.mk hgb; clear hgb hbox hb)
    have n0 : Aside0 (Below wr.heap.size wr (((w7.setCell ⟨gb, 0, none⟩ (.int .i64 x.f0)).setCell ⟨gb, 1, none⟩ (.int .i64 x.f1)).setCell ⟨gb, 2, none⟩ (.int .i64 x.f2))) := ⟨below_set (below_set (below_set HB7.out (Nat.le_of_eq HGB.out.symm)) (Nat.le_of_eq HGB.out.symm)) (Nat.le_of_eq HGB.out.symm)⟩
    have n1 : Aside0 ((((w7.setCell ⟨gb, 0, none⟩ (.int .i64 x.f0)).setCell ⟨gb, 1, none⟩ (.int .i64 x.f1)).setCell ⟨gb, 2, none⟩ (.int .i64 x.f2)).heap[gb]? = some (.cells #[.int .i64 x.f0, .int .i64 x.f1, .int .i64 x.f2] 71 (0, 0))) := ⟨blk_put (blk_put (blk_put BX0.out 0 _ rfl) 1 _ rfl) 2 _ rfl⟩
    generalize (((w7.setCell ⟨gb, 0, none⟩ (.int .i64 x.f0)).setCell ⟨gb, 1, none⟩ (.int .i64 x.f1)).setCell ⟨gb, 2, none⟩ (.int .i64 x.f2)) = w8 at n0 n1 ⊢
    clear hz0 hz1 hz2 hy0 hy1 hy2 BX0 HB7 hx0 hx1 hx2
    have BG8 := Aside0.mk (blk_below BG.out n0.out)
    refine start_ (n := 8) (S := fun w' => w'.cell? ⟨g, 2, none⟩ = some (.map (some b1)) ∧ w'.cell? ⟨gb, 0, none⟩ = some (.int .i64 x.f0) ∧ w'.cell? ⟨gb, 1, none⟩ = some (.int .i64 x.f1) ∧ w'.cell? ⟨gb, 2, none⟩ = some (.int .i64 x.f2)) (ds := [7]) (Pt.bm 8 0) (by kernel_rfl) rfl rfl ⟨(blk_cell BG8.out 2).trans rfl, (blk_cell n1.out 0).trans rfl, (blk_cell n1.out 1).trans rfl, (blk_cell n1.out 2).trans rfl⟩ (fun hHeld => ?_)
    have HB9 := Aside0.mk (below_step n0.out (below_drew (Below.refl _ _)))
    generalize w8.drew = w9 at HB9 hHeld ⊢
    clear n0 n1 BG8
    have BG9 := Aside0.mk (blk_below BG.out HB9.out)
    have M9 := Aside0.mk (M.out.below HB9.out)
    have M9b := Aside0.mk (Mb.out.below HB9.out)
    have HR9 := Aside0.mk (Kd.R_below HRr.out HB9.out)
    have HBB := Aside0.mk (below_step HB.out HB9.out)
    refine Pt.pu 0 (some 24) (Pt.bm 8 1) (by kernel_rfl) ?_
    refine Pt.pu 1 (some 25) (Pt.bm 8 3) (by kernel_rfl) ?_
    refine Pt.pu 2 (some 26) (Pt.bm 8 7) (by kernel_rfl) ?_
    refine Pt.tk 3 (some 27) (Pt.bm 8 15) rfl rfl (by kernel_rfl) hHeld (Or.inl ⟨by rfl, by rintro w' ⟨s0, s1, s2, s3⟩; go_simp; with_reducible rfl⟩) ?_
    refine Pt.tk 4 (some 28) (Pt.bm 8 31) rfl rfl (by kernel_rfl) hHeld (Or.inl ⟨by rfl, by rintro w' ⟨s0, s1, s2, s3⟩; go_simp; with_reducible rfl⟩) ?_
    refine Pt.pu 5 (some 29) (Pt.bm 8 63) (by kernel_rfl) ?_
    refine Pt.pu 6 (some 30) (Pt.bm 8 127) (by kernel_rfl) ?_
    refine last_ (i := 7) (N := none) (Pt.bm 8 255) rfl rfl (by kernel_rfl) (by decide) (fun K hK => ?_)
    refine Mp.store_step (by rfl) rfl (.tmp 27) (.tmp 28) (.tmp 30) rfl rfl M9.out keyF Try.underlying110 x rfl OK.out ((i : Int) + 2) ?hv ?_
    case hv =>
     show Value.int .i64 _ = _
     first | rw [hw1] | rw [hw1'] | simp [hw1, hw1']
    intro w10 hM10 hg10 hz10
    refine hK.out _ _ ?_
    clear hK K hHeld
    refine done_ (by kernel_rfl) ?_
    have BG10 := Aside0.mk (blk_grown BG9.out hg10 (by simpa using (M9.out.ne_blk BG9.out).symm))
    have M10b := Aside0.mk (M9b.out.grown hg10 (by simpa using KS.out.1.symm))
    have HO10 := Aside0.mk (Kd.R_map HR9.out M9.out hg10)
    have HB10 := Aside0.mk (pw_below_grown HBB.out (some b1) (by exact HBB.out.size) hg10 (fun k hk => by cases hk; exact KS.out.2.1))
    have M10 : Aside0 (Mp.Is ekF okF (Value.int .i64) w10 b1 (impl_forkingOf.seen l (i + 1))) := ⟨by
     have e : impl_forkingOf.seen l (i + 1) = fun y' => if y' = x then some ((i : Int) + 2) else impl_forkingOf.seen l i y' := by
      funext y'
      rw [← HX.out]
      rfl
     rw [e]
     exact hM10⟩
    clear hM10 hg10 hz10
    go_wp2
    go_roundg k1
    case measure => exact Nat.lt_succ_self _
    case rel => exact ⟨i + 1, by first | rfl | (simp only [Int.natCast_add]; rfl) | simp [hw2, hw2'], ⟨by have := HI.out; omega⟩, BG10, HO10, M10, M10b, HB10⟩
   ·have hi : i = l.length := by have := HI.out; omega
    subst hi
    have c2b : decide ((l.length : Int) < (l.length : Int)) = false := decide_eq_false (by omega)
    go_wp2
    go_ret
    exact ⟨g, rfl, ⟨_, b1, b2, BG.out, HRr.out, M.out, Mb.out, KS.out.1, HG.out, KS.out.2.1, KS.out.2.2, HG.out, KS.out.2.1, KS.out.2.2⟩, HB.out⟩
 ·rw [if_neg c1] at h2
  cases h2

/-! ### impl_Fork_98: function 98 -/
def impl_Fork_98.f (l0 : List (S71)) : Option (List (S71)) := if l0.length ≤ 5864062014805 then some l0 else none
set_option maxHeartbeats 400000 in
set_option maxRecDepth 100000 in
theorem impl_Fork_98.calls (A0 : Option Addr) (c0 : Nat) (l0 : List (S71)) (r : List (S71)) (w : World) (hr0 : Kd.C k71 w A0 l0.length l0) (hc0 : l0.length ≤ c0) (h : impl_Fork_98.f l0 = some r) :
  Calls Try.prog 98 #[.slice A0 l0.length c0] w fun e w' => ∃ v0_ : Value, e = .returned (v0_) ∧ Kd.R k71 71 w' w.heap.size (fun _ => True) v0_ r ∧ Below w.heap.size w w' := by
 unfold impl_Fork_98.f at h
 by_cases c1 : l0.length ≤ 5864062014805
 ·rw [if_pos c1] at h
  obtain rfl := Option.some.inj h
  clear h
  have HR0 := Aside0.mk hr0
  have C1 := Aside0.mk c1
  clear hr0 c1
  by_cases c2 : l0.length = 0
  ·have c2b : ((l0.length : Int) == 0) = true := by rw [beq_iff_eq]; omega
   have HL := Aside0.mk (List.eq_nil_of_length_eq_zero c2)
   clear c2
   go_enter Try.func98, Try.ntmps98
   go_wp2
   go_ret
   exact ⟨_, rfl, by rw [HL.out]; exact Kd.R_nil _ _ _ _ _, Below.refl _ _⟩
  ·have c2b : ((l0.length : Int) == 0) = false := by rw [beq_eq_false_iff_ne]; omega
   have c2c : (l0.length == 0) = false := by rw [beq_eq_false_iff_ne]; omega
   have HP := Aside0.mk (Nat.pos_of_ne_zero c2)
   clear c2
   go_enter Try.func98, Try.ntmps98
   go_wp2_with (first | ((with_reducible refine gate_dst (N := 9) rfl ?_); refine Kd.R_make k71 _ 71 rfl (N := 9) rfl 23 _ _ rfl (l0.length : Int) rfl rfl Try.underlying23 (.agg #[(.int .i64 0), (.int .i64 0), (.int .i64 0)]) 24 info71 rfl (by decide) (by omega) z71 (ok := fun _ => True) (okp := fun _ => True) (k71_mkM _ _ _ z71 ) (fun _ hk => hk) trivial (by omega) (by have := C1.out; omega) (Below.refl _ _) (Nat.le_refl _) ?_; intro v178 w4 ho5 hb hg_ hnew_; clear hg_ hnew_; have HO := Aside0.mk ho5; have HB := Aside0.mk hb; clear hb ho5) | ((with_reducible refine gate_dst (N := 12) rfl ?_); refine Copy.R_copyK k71 (w0 := w) (xs := List.replicate (l0.length : Int).toNat z71) (ys := l0) w.heap.size 71 rfl _ _ 23 23 rfl Try.underlying23 (by kernel_rfl) (okp := fun _ => False) rfl rfl (by simp) HP.out HO.out (Kd.C_below HR0.out HB.out) (fun _ _ h_ => h_) (fun _ h_ => absurd h_ (by simp)) HB.out ?_; intro w5 ho5 hb; clear HB; have HO5 := Aside0.mk ho5; have HB := Aside0.mk hb; clear hb ho5))
   go_ret
   exact ⟨_, rfl, HO5.out, HB.out⟩
 ·rw [if_neg c1] at h
  exact absurd h (by simp)

/-! ### impl_forking_done: function 56 -/
def impl_forking_done.f (s : FS) (n : Int) : Option (Int × List S71 × Int) := if s.full = true then some (0, [], -1) else (impl_Fork_98.f s.forks).bind fun l => some (s.vars, l, n)
set_option maxHeartbeats 4000000 in
set_option maxRecDepth 100000 in
theorem impl_forking_done.calls (s : FS) (n r1 : Int) (r2 : List S71) (r3 : Int) (base : Nat) (ok : Nat → Prop) (g : Nat) (w : World) (hI : IsF w base ok g s) (h : impl_forking_done.f s n = some (r1, r2, r3)) :
  Calls Try.prog 56 #[.pointer (some ⟨g, 0, none⟩), .int .i64 n] w fun e w' => ∃ v1 : Value, e = .returned (.tuple #[.agg #[.int .i64 r1, v1], .int .i64 r3]) ∧ Kd.R k71 71 w' w.heap.size (fun _ => True) v1 r2 ∧ Below w.heap.size w w' := by
 have hu25 := Try.underlying25
 have hu71 := Try.underlying71
 have hu113 := Try.underlying113
 obtain ⟨u, b1, b2, hg, hR, _⟩ := hI
 obtain ⟨A, c, rfl⟩ := Kd.R_slice hR
 have BG := Aside0.mk hg
 have HR := Aside0.mk (Kd.R_reads' hR).2.2
 have HC := Aside0.mk (Kd.R_reads' hR).2.1
 unfold impl_forking_done.f at h
 have HLT := Aside0.mk (blk_lt hg)
 clear hR hg
 by_cases c1 : s.full = true
 ·rw [if_pos c1] at h
  simp only [Option.some.injEq, Prod.mk.injEq] at h
  obtain ⟨rfl, rfl, rfl⟩ := h
  go_enter Try.func56, Try.ntmps56
  go_wp2_with ((with_reducible refine gate_dst (N := 4) rfl ?_); refine box_event ?hg (N := 4) ?hd (cs := #[.int .i64 0, .slice none 0 0]) (t := 25) ?hr ?_; (case hd => rfl); (case hg => rfl); (case hr => first | (go_simp; done) | (go_simp; rfl)); intro gb hgb w3 hbox hb; have BX0 := Aside0.mk hbox; have HB3 := Aside0.mk hb; have hz0 : w3.cell? ⟨gb, 0, none⟩ = some (.int .i64 0) := (blk_cell BX0.out 0).trans rfl; have hz1 : w3.cell? ⟨gb, 1, none⟩ = some (.slice none 0 0) := (blk_cell BX0.out 1).trans rfl; have hy0 := blk_frozen BX0.out 0; have hy1 := blk_frozen BX0.out 1; have HGB := Aside0.mk hgb; have BG3 := Aside0.mk (blk_below BG.out hb); have hi3 : w3.cell? ⟨g, 3, none⟩ = some (.bool true) := (blk_cell BG3.out 3).trans (by rw [← c1]; rfl); clear hgb hbox hb)
  refine bodyPost_ret (results_ct rfl _ _ gb 25 #[.int .i64 0, .slice none 0 0] (0, 0) _ rfl (blk_put (blk_put BX0.out 0 _ rfl) 1 _ rfl) Try.underlying25 rfl (by kernel_rfl)) rfl ?_
  exact ⟨_, rfl, Kd.R_nil _ _ _ _ _, below_set (below_set HB3.out (Nat.le_of_eq HGB.out.symm)) (Nat.le_of_eq HGB.out.symm)⟩
 ·rw [if_neg c1] at h
  obtain ⟨l, h1, h2⟩ := Option.bind_eq_some_iff.mp h
  simp only [Option.some.injEq, Prod.mk.injEq] at h2
  obtain ⟨rfl, rfl, rfl⟩ := h2
  have H1 := Aside0.mk h1
  replace c1 := Bool.eq_false_iff.mpr c1
  clear h h1
  go_enter Try.func56, Try.ntmps56
  go_wp2_with ((with_reducible refine gate_dst (N := 4) rfl ?_); refine box_event ?hg (N := 4) ?hd (cs := #[.int .i64 0, .slice none 0 0]) (t := 25) ?hr ?_; (case hd => rfl); (case hg => rfl); (case hr => first | (go_simp; done) | (go_simp; rfl)); intro gb hgb w3 hbox hb; have BX0 := Aside0.mk hbox; have HB3 := Aside0.mk hb; have HGB := Aside0.mk hgb; have BG3 := Aside0.mk (blk_below BG.out hb); have hi3 : w3.cell? ⟨g, 3, none⟩ = some (.bool false) := (blk_cell BG3.out 3).trans (by rw [← c1]; rfl); clear hgb hbox hb)
  refine start_ (n := 15) (S := fun w' => w'.cell? ⟨g, 0, none⟩ = some (.int .i64 s.vars) ∧ w'.cell? ⟨g, 1, none⟩ = some (.slice A s.forks.length c)) (ds := [13]) (Pt.bm 15 0) (by kernel_rfl) rfl rfl ⟨(blk_cell BG3.out 0).trans rfl, (blk_cell BG3.out 1).trans rfl⟩ (fun hHeld => ?_)
  have hd1 : Below w3.heap.size w3 w3.drew := below_drew (Below.refl _ _)
  have n0 := Aside0.mk (below_step HB3.out hd1)
  have n1 := Aside0.mk (blk_drew BX0.out)
  clear hi3
  generalize w3.drew = w4 at n0 n1 hHeld ⊢
  clear hd1 HB3 BX0 BG3
  have HB4 := n0
  have BX4 := n1
  clear n0 n1
  have BG4 := Aside0.mk (blk_below BG.out HB4.out)
  have HR4 := Aside0.mk (Kd.C_below HR.out HB4.out)
  refine Pt.pu 0 (some 11) (Pt.bm 15 1) (by kernel_rfl) ?_
  refine Pt.pu 1 (some 12) (Pt.bm 15 3) (by kernel_rfl) ?_
  refine Pt.pu 2 (some 13) (Pt.bm 15 7) (by kernel_rfl) ?_
  refine Pt.pu 3 (some 14) (Pt.bm 15 15) (by kernel_rfl) ?_
  refine Pt.tk 4 (some 15) (Pt.bm 15 31) rfl rfl (by kernel_rfl) hHeld (Or.inl ⟨by rfl, by rintro w' ⟨s0, s1⟩; go_simp; with_reducible rfl⟩) ?_
  refine Pt.pu 5 (some 16) (Pt.bm 15 63) (by kernel_rfl) ?_
  refine Pt.pu 6 (some 17) (Pt.bm 15 127) (by kernel_rfl) ?_
  refine Pt.pu 7 (some 18) (Pt.bm 15 255) (by kernel_rfl) ?_
  refine Pt.pu 8 (some 19) (Pt.bm 15 511) (by kernel_rfl) ?_
  refine Pt.tk 9 (some 20) (Pt.bm 15 1023) rfl rfl (by kernel_rfl) hHeld (Or.inl ⟨by rfl, by rintro w' ⟨s0, s1⟩; go_simp; with_reducible rfl⟩) ?_
  refine Pt.pu 12 (some 23) (Pt.bm 15 5119) (by kernel_rfl) ?_
  refine one_ (i := 10) (N := some 21) (Pt.bm 15 6143) rfl rfl (by kernel_rfl) (by decide) (fun K hK => ?_)
  refine goes_ Try.func98 (by kernel_rfl) rfl #[.slice A s.forks.length c] (by rfl) rfl rfl (by (try simp only [List.map_toArray, List.map_cons, List.map_nil]); first | done | rfl) ?_
  refine (impl_Fork_98.calls A c s.forks _ _ HR4.out HC.out H1.out).mono ?_
  rintro e w5 ⟨v0, rfl, hR5, hb5⟩
  refine ⟨_, rfl, ?_⟩
  obtain ⟨A5, c5, rfl⟩ := Kd.R_slice hR5
  have HR5 := Aside0.mk hR5
  have HB5 := Aside0.mk hb5
  have BG5 := Aside0.mk (blk_below BG4.out hb5)
  have BX5 := Aside0.mk (blk_below BX4.out hb5)
  clear hR5 hb5
  refine hK.out _ _ ⟨(blk_cell BG5.out 0).trans rfl, (blk_cell BG5.out 1).trans rfl⟩ (fun hHeld => ?_)
  clear hK K
  refine norm_ (a' := ?_) ?_ ?_
  rotate_left
  ·show Act.put _ (some 21) _ = _
   simp only [Act.put, List.setIfInBounds_toArray, List.set_cons_zero, List.set_cons_succ, i64_w, i32_w]
   rfl
  refine Pt.pu 11 (some 22) (Pt.bm 15 8191) (by kernel_rfl) ?_
  refine last_ (i := 13) (N := none) (Pt.bm 15 16383) rfl rfl (by kernel_rfl) (by decide) (fun K hK => ?_)
  have hs0 : w5.cell? ⟨gb, 0, none⟩ = some (.int .i64 0) := (blk_cell BX5.out 0).trans rfl
  have hs1 : w5.cell? ⟨gb, 1, none⟩ = some (.slice none 0 0) := (blk_cell BX5.out 1).trans rfl
  have hfs0 := blk_frozen BX5.out 0
  have hfs1 := blk_frozen BX5.out 1
  refine skip_ (w1 := ?_) (by rfl) rfl ?_ ?_
  rotate_left
  ·go_simp
   rfl
  refine hK.out _ _ ?_
  clear hK K hs0 hs1 hfs0 hfs1
  refine Pt.pu 14 (some 5) (Pt.bm 15 32767) (by kernel_rfl) ?_
  refine done_ (by kernel_rfl) ?_
  try go_wp2
  refine bodyPost_ret (results_ct rfl _ _ gb 25 #[.int .i64 s.vars, .slice A5 l.length c5] (0, 0) _ rfl (blk_put (blk_put BX5.out 0 _ rfl) 1 _ rfl) Try.underlying25 rfl (by kernel_rfl)) rfl ?_
  exact ⟨_, rfl, Kd.R_far (p := ⟨gb, 1, none⟩) (Kd.R_far (p := ⟨gb, 0, none⟩) (Kd.R_types (Kd.R_lower HR5.out HB4.out.size) BX5.out (by decide)) (fun _ hk => hk.2) _) (fun _ hk => hk.2) _ |> fun h_ => Kd.R_mono h_ (fun _ _ => trivial), below_set (below_set (below_step HB4.out HB5.out) (Nat.le_of_eq HGB.out.symm)) (Nat.le_of_eq HGB.out.symm)⟩

/-! ### impl_CircuitValid: function 75 -/
mutual
def impl_CircuitValid.j0 : Nat → Bool → Int → List (S121) → Option (Bool)
 | 0, _, _, _ => none
 | k + 1, x15, x200000, x200001 => if x15 = true then (some false) else (impl_CircuitValid.l0 k x200001 (x200001.length : Int) 0 x200000 x200001)
def impl_CircuitValid.l0 : Nat → List (S121) → Int → Int → Int → List (S121) → Option (Bool)
 | 0, _, _, _, _, _ => none
 | k + 1, x17, x18, x19, x200000, x200001 => if x19 < x18 then (if 0 ≤ x19 then (if x19 < (x17.length : Int) then ((impl_in.f ((rd_T121 x17 x19).f0) 0 (wrap64 ((wrap64 (2 * (wrap64 ((wrap64 (1 + x200000)) + x19)))) - 1))).bind fun t203 => (if t203 = true then ((impl_in.f ((rd_T121 x17 x19).f1) 0 (wrap64 ((wrap64 (2 * (wrap64 ((wrap64 (1 + x200000)) + x19)))) - 1))).bind fun t204 => (if t204 = true then (impl_CircuitValid.l0 k x17 x18 (wrap64 (x19 + 1)) x200000 x200001) else (some false))) else (some false))) else (none)) else (none)) else (some true)
end
def impl_CircuitValid.f (k : Nat) (a0_0 : Int) (l0_1 : List (S121)) : Option (Bool) := (impl_in.f a0_0 0 12).bind fun t200 => (if t200 = true then (impl_CircuitValid.j0 k (decide ((l0_1.length : Int) > 600)) a0_0 l0_1) else (impl_CircuitValid.j0 k true a0_0 l0_1))
theorem impl_CircuitValid.mono_l : ∀ k, (∀ y0 y1 y2, LeO (impl_CircuitValid.j0 k y0 y1 y2) (impl_CircuitValid.j0 (k + 1) y0 y1 y2)) ∧ (∀ y0 y1 y2 y3 y4, LeO (impl_CircuitValid.l0 k y0 y1 y2 y3 y4) (impl_CircuitValid.l0 (k + 1) y0 y1 y2 y3 y4))
 | 0 => ⟨fun _ _ _ r h => by simp [impl_CircuitValid.j0] at h, fun _ _ _ _ _ r h => by simp [impl_CircuitValid.l0] at h⟩
 | k + 1 => by
  obtain ⟨ih0, ih1⟩ := impl_CircuitValid.mono_l k
  refine ⟨?_, ?_⟩
  ·intro y0 y1 y2
   unfold impl_CircuitValid.j0
   repeat' first
   | (with_reducible exact ih0 _ _ _)
   | (with_reducible exact ih1 _ _ _ _ _)
   | (with_reducible exact LeO.refl _)
   | (with_reducible exact LeO.none _)
   | (with_reducible refine LeO.ite ?_ ?_)
   | (with_reducible refine LeO.bind ?_ (fun _ => ?_))
   | exact ih0 _ _ _
   | exact ih1 _ _ _ _ _
   | exact LeO.none _
   | refine LeO.ite ?_ ?_
   | refine LeO.bind ?_ (fun _ => ?_)
  ·intro y0 y1 y2 y3 y4
   unfold impl_CircuitValid.l0
   repeat' first
   | (with_reducible exact ih0 _ _ _)
   | (with_reducible exact ih1 _ _ _ _ _)
   | (with_reducible exact LeO.refl _)
   | (with_reducible exact LeO.none _)
   | (with_reducible refine LeO.ite ?_ ?_)
   | (with_reducible refine LeO.bind ?_ (fun _ => ?_))
   | exact ih0 _ _ _
   | exact ih1 _ _ _ _ _
   | exact LeO.none _
   | refine LeO.ite ?_ ?_
   | refine LeO.bind ?_ (fun _ => ?_)
theorem impl_CircuitValid.mono : ∀ a0 a1 k, LeO (impl_CircuitValid.f k a0 a1) (impl_CircuitValid.f (k + 1) a0 a1) := by
 intro a0 a1 k
 obtain ⟨ih0, ih1⟩ := impl_CircuitValid.mono_l k
 unfold impl_CircuitValid.f
 repeat' first
   | (with_reducible exact ih0 _ _ _)
   | (with_reducible exact ih1 _ _ _ _ _)
   | (with_reducible exact LeO.refl _)
   | (with_reducible exact LeO.none _)
   | (with_reducible refine LeO.ite ?_ ?_)
   | (with_reducible refine LeO.bind ?_ (fun _ => ?_))
   | exact ih0 _ _ _
   | exact ih1 _ _ _ _ _
   | exact LeO.none _
   | refine LeO.ite ?_ ?_
   | refine LeO.bind ?_ (fun _ => ?_)
set_option maxHeartbeats 8000000 in
set_option maxRecDepth 100000 in
theorem impl_CircuitValid.calls (k : Nat) (a0_0 : Int) (A0_1 : Option Addr) (c0_1 : Nat) (l0_1 : List (S121)) (r : Bool) (w : World) (hr0_1 : Kd.C k121 w A0_1 l0_1.length l0_1) (hc0_1 : l0_1.length ≤ c0_1) (h : impl_CircuitValid.f k a0_0 l0_1 = some r) :
  Calls Try.prog 75 #[.agg #[.int .i64 a0_0, .slice A0_1 l0_1.length c0_1]] w fun e w' => e = .returned (.bool r) ∧ Below w.heap.size w w' := by
 have hu45 := Try.underlying45
 have hu121 := Try.underlying121
 have HR0_1 := Aside0.mk hr0_1
 have HC0_1 := Aside0.mk hc0_1
 clear hr0_1 hc0_1
 have HB := Aside0.mk (Below.refl w.heap.size w)
 have H : ((impl_in.f a0_0 0 12).bind fun t200 => (if t200 = true then (impl_CircuitValid.j0 k (decide ((l0_1.length : Int) > 600)) a0_0 l0_1) else (impl_CircuitValid.j0 k true a0_0 l0_1))) = some r := h
 clear h
 have HC2 := Aside0.mk H
 clear H
 go_enter Try.func75, Try.ntmps75
 go_upto_region 1 with (first | ((with_reducible refine gate_dst (N := 1) rfl ?_); (try (refine gate_guard (by rfl) ?_; dsimp only)); refine box_event ?hg (N := 1) ?hd (cs := #[.int .i64 a0_0, .slice A0_1 l0_1.length c0_1]) (t := 45) ?hr ?_; (case hd => rfl); (case hg => rfl); (case hr => first | (go_simp; done) | (go_simp; rfl)); intro gb199 hg w3 hbox hb; have n0_ := Aside0.mk (below_step (by repeat (first | (with_reducible first | exact HB.out | apply bwA | apply bwN | apply bwD) | exact HB.out)) hb); have n1_ := Aside0.mk (hbox); have n2_ := Aside0.mk ((by rw [hg]; exact (below_size (by repeat (first | (with_reducible first | exact HB.out | apply bwA | apply bwN | apply bwD) | exact HB.out))) : w.heap.size ≤ gb199)); have n3_ := Aside0.mk ((by rw [hg]; exact (below_size (by repeat (first | (with_reducible first | exact HB.out | apply bwA | apply bwN | apply bwD) | exact HB.out))) : w.heap.size ≤ gb199)); clear HB; have HB := n0_; have BK199 := n1_; have GW199 := n2_; have GE199 := n3_; clear n0_ n1_ n2_ n3_; clear hb hbox hg))
 (try simp only [Act.put, List.setIfInBounds_toArray, List.set_cons_zero, List.set_cons_succ])
 go_cut [15] (fun v15 wc => ∃ (kq : Nat) (x15_1 : Bool), v15 = .bool x15_1 ∧ Aside0 (impl_CircuitValid.j0 kq x15_1 a0_0 l0_1 = some r) ∧ Aside0 (kq ≤ k) ∧ Aside0 (wc.heap[gb199]? = some (.cells #[.int .i64 a0_0, (.slice A0_1 l0_1.length c0_1)] 45 (0, 0))) ∧ Aside0 (Below w.heap.size w wc))
 case first =>
  have H := HC2.out
  clear HC2
  replace H := Option.bind_eq_some_iff.mp H
  obtain ⟨t200, A40, H⟩ := H
  replace H : (if t200 = true then (impl_CircuitValid.j0 k (decide ((l0_1.length : Int) > 600)) a0_0 l0_1) else (impl_CircuitValid.j0 k true a0_0 l0_1)) = some r := H
  have A4 := Aside0.mk A40
  clear A40
  by_cases c5 : t200 = true
  ·subst c5
   have H1 : (impl_CircuitValid.j0 k (decide ((l0_1.length : Int) > 600)) a0_0 l0_1) = some r := by rw [if_pos rfl] at H; exact H
   clear H
   have H := H1
   clear H1
   have H' := Aside0.mk H
   clear H
   have hcz6_0 : w3.cell? ⟨gb199, 0, none⟩ = some (.int .i64 a0_0) := (blk_cell BK199.out 0).trans rfl
   have hcz6_1 : w3.cell? ⟨gb199, 1, none⟩ = some (.slice A0_1 l0_1.length c0_1) := (blk_cell BK199.out 1).trans rfl
   have hfz6_0 := blk_frozen BK199.out 0
   have hfz6_1 := blk_frozen BK199.out 1
   go_wp2_with (first | ((with_reducible refine gate_callee (f := 52) rfl ?_); refine goesL_ (some 8) rfl rfl Try.func52 (by kernel_rfl) rfl #[.int .i64 a0_0, .int .i64 0, .int .i64 12] rfl lmB ?_; (with_reducible refine (impl_in.calls a0_0 0 12 true _ A4.out).mono ?_); rintro e w' ⟨rfl, ⟨nd, rfl⟩⟩; refine ⟨_, rfl, ?_⟩))
   go_meet
   case rel => exact ⟨_, (decide ((l0_1.length : Int) > 600)), rsd, H', ⟨by first | omega | exact Nat.le_refl _⟩, ⟨bvK BK199.out⟩, ⟨by repeat (first | (with_reducible first | exact HB.out | apply bwA | apply bwN | apply bwD | refine below_set ?_ GE199.out) | exact HB.out)⟩⟩
  ·replace c5 := Bool.eq_false_iff.mpr c5
   subst c5
   have H1 : (impl_CircuitValid.j0 k true a0_0 l0_1) = some r := by rw [if_neg (show ¬ (false = true) by decide)] at H; exact H
   clear H
   have H := H1
   clear H1
   have H' := Aside0.mk H
   clear H
   have hcz7_0 : w3.cell? ⟨gb199, 0, none⟩ = some (.int .i64 a0_0) := (blk_cell BK199.out 0).trans rfl
   have hcz7_1 : w3.cell? ⟨gb199, 1, none⟩ = some (.slice A0_1 l0_1.length c0_1) := (blk_cell BK199.out 1).trans rfl
   have hfz7_0 := blk_frozen BK199.out 0
   have hfz7_1 := blk_frozen BK199.out 1
   go_wp2_with (first | ((with_reducible refine gate_callee (f := 52) rfl ?_); refine goesL_ (some 8) rfl rfl Try.func52 (by kernel_rfl) rfl #[.int .i64 a0_0, .int .i64 0, .int .i64 12] rfl lmB ?_; (with_reducible refine (impl_in.calls a0_0 0 12 false _ A4.out).mono ?_); rintro e w' ⟨rfl, ⟨nd, rfl⟩⟩; refine ⟨_, rfl, ?_⟩))
   go_meet
   case rel => exact ⟨_, (true), rsd, H', ⟨by first | omega | exact Nat.le_refl _⟩, ⟨bvK BK199.out⟩, ⟨by repeat (first | (with_reducible first | exact HB.out | apply bwA | apply bwN | apply bwD | refine below_set ?_ GE199.out) | exact HB.out)⟩⟩
 case rest =>
  clear HC2
  try clear p2
  try clear c5
  try clear c7
  try clear hcz6_0
  try clear hcz6_1
  try clear hcz7_0
  try clear hcz7_1
  try clear hfz6_0
  try clear hfz6_1
  try clear hfz7_0
  try clear hfz7_1
  obtain ⟨kq, x15_1, rfl, HA, HJ1, BK199, HB⟩ := hcut
  cases kq with
  | zero => exact absurd HA.out (by simp [impl_CircuitValid.j0])
  | succ kj1 =>
   have H := HA.out
   clear HA
   simp only [impl_CircuitValid.j0] at H
   by_cases c8 : x15_1 = true
   ·subst c8
    have H1 : (some false) = some r := by rw [if_pos rfl] at H; exact H
    clear H
    have H := H1
    clear H1
    obtain rfl := Option.some.inj H
    go_wp2
    go_ret
    exact ⟨ers, by repeat (first | (with_reducible first | exact HB.out | apply bwA | apply bwN | apply bwD | refine below_set ?_ GE199.out) | exact HB.out)⟩
   ·replace c8 := Bool.eq_false_iff.mpr c8
    subst c8
    have H1 : (impl_CircuitValid.l0 kj1 l0_1 (l0_1.length : Int) 0 a0_0 l0_1) = some r := by rw [if_neg (show ¬ (false = true) by decide)] at H; exact H
    clear H
    have H := H1
    clear H1
    have H' := Aside0.mk H
    clear H
    have hcz9_0 : wc.cell? ⟨gb199, 0, none⟩ = some (.int .i64 a0_0) := (blk_cell BK199.out 0).trans rfl
    have hcz9_1 : wc.cell? ⟨gb199, 1, none⟩ = some (.slice A0_1 l0_1.length c0_1) := (blk_cell BK199.out 1).trans rfl
    have hfz9_0 := blk_frozen BK199.out 0
    have hfz9_1 := blk_frozen BK199.out 1
    go_wp2
    go_loopg [19] kj1 (fun kq v19 w' => ∃ (x19_2 : Int), v19 = .int .i64 x19_2 ∧ Aside0 (impl_CircuitValid.l0 kq l0_1 (l0_1.length : Int) x19_2 a0_0 l0_1 = some r) ∧ Aside0 (kq ≤ kj1) ∧ Aside0 (w'.heap[gb199]? = some (.cells #[.int .i64 a0_0, (.slice A0_1 l0_1.length c0_1)] 45 (0, 0))) ∧ Aside0 (Below w.heap.size w w'))
    case atStart => exact ⟨(0), rsd, H', ⟨Nat.le_refl _⟩, ⟨bvK BK199.out⟩, ⟨by repeat (first | (with_reducible first | exact HB.out | apply bwA | apply bwN | apply bwD | refine below_set ?_ GE199.out) | exact HB.out)⟩⟩
    case round =>
     clear H'
     try clear p2
     try clear c5
     try clear c7
     try clear c8
     try clear hcz6_0
     try clear hcz6_1
     try clear hcz7_0
     try clear hcz7_1
     try clear hcz9_0
     try clear hcz9_1
     try clear hfz6_0
     try clear hfz6_1
     try clear hfz7_0
     try clear hfz7_1
     try clear hfz9_0
     try clear hfz9_1
     try clear p2
     obtain ⟨x19_2, rfl, HA, HK2, BK199, HB⟩ := hrel
     cases gk with
     | zero => exact absurd HA.out (by simp [impl_CircuitValid.l0])
     | succ k2 =>
      have H := HA.out
      clear HA
      simp only [impl_CircuitValid.l0] at H
      by_cases c10 : x19_2 < (l0_1.length : Int)
      ·rw [if_pos c10] at H
       have c10b0 : decide (x19_2 < (l0_1.length : Int)) = true := decide_eq_true c10
       clear c10
       by_cases c11 : 0 ≤ x19_2
       ·rw [if_pos c11] at H
        have c11b0 : decide (0 ≤ x19_2) = true := decide_eq_true c11
        clear c11
        by_cases c12 : x19_2 < (l0_1.length : Int)
        ·rw [if_pos c12] at H
         have c12b0 : decide (x19_2 < (l0_1.length : Int)) = true := decide_eq_true c12
         clear c12
         replace H := Option.bind_eq_some_iff.mp H
         obtain ⟨t203, A130, H⟩ := H
         replace H : (if t203 = true then ((impl_in.f ((rd_T121 l0_1 x19_2).f1) 0 (wrap64 ((wrap64 (2 * (wrap64 ((wrap64 (1 + a0_0)) + x19_2)))) - 1))).bind fun t204 => (if t204 = true then (impl_CircuitValid.l0 k2 l0_1 (l0_1.length : Int) (wrap64 (x19_2 + 1)) a0_0 l0_1) else (some false))) else (some false)) = some r := H
         have A13 := Aside0.mk A130
         clear A130
         by_cases c14 : t203 = true
         ·subst c14
          have H1 : ((impl_in.f ((rd_T121 l0_1 x19_2).f1) 0 (wrap64 ((wrap64 (2 * (wrap64 ((wrap64 (1 + a0_0)) + x19_2)))) - 1))).bind fun t204 => (if t204 = true then (impl_CircuitValid.l0 k2 l0_1 (l0_1.length : Int) (wrap64 (x19_2 + 1)) a0_0 l0_1) else (some false))) = some r := by rw [if_pos rfl] at H; exact H
          clear H
          have H := H1
          clear H1
          replace H := Option.bind_eq_some_iff.mp H
          obtain ⟨t204, A150, H⟩ := H
          replace H : (if t204 = true then (impl_CircuitValid.l0 k2 l0_1 (l0_1.length : Int) (wrap64 (x19_2 + 1)) a0_0 l0_1) else (some false)) = some r := H
          have A15 := Aside0.mk A150
          clear A150
          by_cases c16 : t204 = true
          ·subst c16
           have H1 : (impl_CircuitValid.l0 k2 l0_1 (l0_1.length : Int) (wrap64 (x19_2 + 1)) a0_0 l0_1) = some r := by rw [if_pos rfl] at H; exact H
           clear H
           have H := H1
           clear H1
           have H' := Aside0.mk H
           clear H
           have p201 : 0 ≤ (x19_2 : Int) := oda
           have q201 : x19_2 < (l0_1.length : Int) := oda
           obtain ⟨ad201, e201, hx201_0, hx201_1⟩ := at_T121 HR0_1.out x19_2 p201 q201
           cases e201
           try replace hx201_0 := bct HB.out hx201_0
           try replace hx201_1 := bct HB.out hx201_1
           replace p201 := eq_true p201
           replace q201 := eq_true q201
           go_wp2_with (first | ((with_reducible refine gate_dst (N := 4) rfl ?_); (try (refine gate_guard (by rfl) ?_; dsimp only)); refine box_event ?hg (N := 4) ?hd (cs := #[.int .i64 0, .int .i64 0]) (t := 121) ?hr ?_; (case hd => rfl); (case hg => rfl); (case hr => first | (go_simp; done) | (go_simp; rfl)); intro gb202 hg w17 hbox hb; have n0_ := Aside0.mk (blk_below (g := gb199) (o := .cells #[.int .i64 a0_0, .slice (some ad201) l0_1.length c0_1] 45 (0, 0)) (bvK BK199.out) hb); have n1_ := Aside0.mk (below_step (by repeat (first | (with_reducible first | exact HB.out | apply bwA | apply bwN | apply bwD | refine below_set ?_ GE199.out) | exact HB.out)) hb); have n2_ := Aside0.mk (hbox); have n3_ := Aside0.mk ((by rw [hg]; exact (below_size (by repeat (first | (with_reducible first | exact HB.out | apply bwA | apply bwN | apply bwD | refine below_set ?_ GE199.out) | exact HB.out))) : w.heap.size ≤ gb202)); have n4_ := Aside0.mk ((by rw [hg]; exact (below_size (by repeat (first | (with_reducible first | exact HB.out | apply bwA | apply bwN | apply bwD | refine below_set ?_ GE199.out) | exact HB.out))) : w.heap.size ≤ gb202)); have n5_ := Aside0.mk ((by rw [hg]; exact Nat.ne_of_lt (blk_lt (g := gb199) (o := .cells #[.int .i64 a0_0, .slice (some ad201) l0_1.length c0_1] 45 (0, 0)) (bvK BK199.out)) : gb199 ≠ gb202)); have n6_ := Aside0.mk ((by rw [hg]; exact Nat.ne_of_gt (blk_lt (g := gb199) (o := .cells #[.int .i64 a0_0, .slice (some ad201) l0_1.length c0_1] 45 (0, 0)) (bvK BK199.out)) : gb202 ≠ gb199)); clear BK199; clear HB; have BK199 := n0_; have HB := n1_; have BK202 := n2_; have GW202 := n3_; have GE202 := n4_; have NB199_202 := n5_; have NB202_199 := n6_; clear n0_ n1_ n2_ n3_ n4_ n5_ n6_; clear hb hbox hg; have hnb18 := NB202_199.out; have hnc18 := NB199_202.out; have hcz19_0 : w17.cell? ⟨gb202, 0, none⟩ = some (.int .i64 0) := (blk_cell BK202.out 0).trans rfl; have hcz19_1 : w17.cell? ⟨gb202, 1, none⟩ = some (.int .i64 0) := (blk_cell BK202.out 1).trans rfl; have hfz19_0 := blk_frozen BK202.out 0; have hfz19_1 := blk_frozen BK202.out 1; have hcz20_0 : w17.cell? ⟨gb199, 0, none⟩ = some (.int .i64 a0_0) := (blk_cell BK199.out 0).trans rfl; have hcz20_1 : w17.cell? ⟨gb199, 1, none⟩ = some (.slice (some ad201) l0_1.length c0_1) := (blk_cell BK199.out 1).trans rfl; have hfz20_0 := blk_frozen BK199.out 0; have hfz20_1 := blk_frozen BK199.out 1) | ((with_reducible refine gate_callee (f := 52) rfl ?_); refine goesL_ (some 34) rfl rfl Try.func52 (by kernel_rfl) rfl #[.int .i64 ((rd_T121 l0_1 x19_2).f0), .int .i64 0, .int .i64 (wrap64 ((wrap64 (2 * (wrap64 ((wrap64 (1 + a0_0)) + x19_2)))) - 1))] rfl lmB ?_; (with_reducible refine (impl_in.calls ((rd_T121 l0_1 x19_2).f0) 0 (wrap64 ((wrap64 (2 * (wrap64 ((wrap64 (1 + a0_0)) + x19_2)))) - 1)) true _ A13.out).mono ?_); rintro e w' ⟨rfl, ⟨nd, rfl⟩⟩; refine ⟨_, rfl, ?_⟩) | (go_at_call 52; (with_reducible refine (impl_in.calls ((rd_T121 l0_1 x19_2).f1) 0 (wrap64 ((wrap64 (2 * (wrap64 ((wrap64 (1 + a0_0)) + x19_2)))) - 1)) true _ A15.out).mono ?_); rintro e w' ⟨rfl, ⟨nd, rfl⟩⟩))
           go_roundg k2
           case measure => have := HJ1.out; have := HK2.out; omega
           case rel => exact ⟨(wrap64 (x19_2 + 1)), rsd, H', ⟨by have := HJ1.out; have := HK2.out; omega⟩, ⟨by (with_reducible repeat (first | refine blk_drewN ?_ _ | refine blk_drew ?_ | refine blk_alloc ?_ _)); refine blk_far ?_ NB199_202.out _; (with_reducible repeat (first | refine blk_drewN ?_ _ | refine blk_drew ?_ | refine blk_alloc ?_ _)); refine blk_far ?_ NB199_202.out _; (with_reducible repeat (first | refine blk_drewN ?_ _ | refine blk_drew ?_ | refine blk_alloc ?_ _)); exact BK199.out⟩, ⟨by repeat (first | (with_reducible first | exact HB.out | apply bwA | apply bwN | apply bwD | refine below_set ?_ GE199.out | refine below_set ?_ GE202.out) | exact HB.out)⟩⟩
          ·replace c16 := Bool.eq_false_iff.mpr c16
           subst c16
           have H1 : (some false) = some r := by rw [if_neg (show ¬ (false = true) by decide)] at H; exact H
           clear H
           have H := H1
           clear H1
           obtain rfl := Option.some.inj H
           have p201 : 0 ≤ (x19_2 : Int) := oda
           have q201 : x19_2 < (l0_1.length : Int) := oda
           obtain ⟨ad201, e201, hx201_0, hx201_1⟩ := at_T121 HR0_1.out x19_2 p201 q201
           cases e201
           try replace hx201_0 := bct HB.out hx201_0
           try replace hx201_1 := bct HB.out hx201_1
           replace p201 := eq_true p201
           replace q201 := eq_true q201
           go_wp2_with (first | ((with_reducible refine gate_dst (N := 4) rfl ?_); (try (refine gate_guard (by rfl) ?_; dsimp only)); refine box_event ?hg (N := 4) ?hd (cs := #[.int .i64 0, .int .i64 0]) (t := 121) ?hr ?_; (case hd => rfl); (case hg => rfl); (case hr => first | (go_simp; done) | (go_simp; rfl)); intro gb202 hg w21 hbox hb; have n0_ := Aside0.mk (blk_below (g := gb199) (o := .cells #[.int .i64 a0_0, .slice (some ad201) l0_1.length c0_1] 45 (0, 0)) (bvK BK199.out) hb); have n1_ := Aside0.mk (below_step (by repeat (first | (with_reducible first | exact HB.out | apply bwA | apply bwN | apply bwD | refine below_set ?_ GE199.out) | exact HB.out)) hb); have n2_ := Aside0.mk (hbox); have n3_ := Aside0.mk ((by rw [hg]; exact (below_size (by repeat (first | (with_reducible first | exact HB.out | apply bwA | apply bwN | apply bwD | refine below_set ?_ GE199.out) | exact HB.out))) : w.heap.size ≤ gb202)); have n4_ := Aside0.mk ((by rw [hg]; exact (below_size (by repeat (first | (with_reducible first | exact HB.out | apply bwA | apply bwN | apply bwD | refine below_set ?_ GE199.out) | exact HB.out))) : w.heap.size ≤ gb202)); have n5_ := Aside0.mk ((by rw [hg]; exact Nat.ne_of_lt (blk_lt (g := gb199) (o := .cells #[.int .i64 a0_0, .slice (some ad201) l0_1.length c0_1] 45 (0, 0)) (bvK BK199.out)) : gb199 ≠ gb202)); have n6_ := Aside0.mk ((by rw [hg]; exact Nat.ne_of_gt (blk_lt (g := gb199) (o := .cells #[.int .i64 a0_0, .slice (some ad201) l0_1.length c0_1] 45 (0, 0)) (bvK BK199.out)) : gb202 ≠ gb199)); clear BK199; clear HB; have BK199 := n0_; have HB := n1_; have BK202 := n2_; have GW202 := n3_; have GE202 := n4_; have NB199_202 := n5_; have NB202_199 := n6_; clear n0_ n1_ n2_ n3_ n4_ n5_ n6_; clear hb hbox hg; have hnb22 := NB202_199.out; have hnc22 := NB199_202.out; have hcz23_0 : w21.cell? ⟨gb202, 0, none⟩ = some (.int .i64 0) := (blk_cell BK202.out 0).trans rfl; have hcz23_1 : w21.cell? ⟨gb202, 1, none⟩ = some (.int .i64 0) := (blk_cell BK202.out 1).trans rfl; have hfz23_0 := blk_frozen BK202.out 0; have hfz23_1 := blk_frozen BK202.out 1; have hcz24_0 : w21.cell? ⟨gb199, 0, none⟩ = some (.int .i64 a0_0) := (blk_cell BK199.out 0).trans rfl; have hcz24_1 : w21.cell? ⟨gb199, 1, none⟩ = some (.slice (some ad201) l0_1.length c0_1) := (blk_cell BK199.out 1).trans rfl; have hfz24_0 := blk_frozen BK199.out 0; have hfz24_1 := blk_frozen BK199.out 1) | ((with_reducible refine gate_callee (f := 52) rfl ?_); refine goesL_ (some 34) rfl rfl Try.func52 (by kernel_rfl) rfl #[.int .i64 ((rd_T121 l0_1 x19_2).f0), .int .i64 0, .int .i64 (wrap64 ((wrap64 (2 * (wrap64 ((wrap64 (1 + a0_0)) + x19_2)))) - 1))] rfl lmB ?_; (with_reducible refine (impl_in.calls ((rd_T121 l0_1 x19_2).f0) 0 (wrap64 ((wrap64 (2 * (wrap64 ((wrap64 (1 + a0_0)) + x19_2)))) - 1)) true _ A13.out).mono ?_); rintro e w' ⟨rfl, ⟨nd, rfl⟩⟩; refine ⟨_, rfl, ?_⟩) | (go_at_call 52; (with_reducible refine (impl_in.calls ((rd_T121 l0_1 x19_2).f1) 0 (wrap64 ((wrap64 (2 * (wrap64 ((wrap64 (1 + a0_0)) + x19_2)))) - 1)) false _ A15.out).mono ?_); rintro e w' ⟨rfl, ⟨nd, rfl⟩⟩))
           go_ret
           exact ⟨ers, by repeat (first | (with_reducible first | exact HB.out | apply bwA | apply bwN | apply bwD | refine below_set ?_ GE199.out | refine below_set ?_ GE202.out) | exact HB.out)⟩
         ·replace c14 := Bool.eq_false_iff.mpr c14
          subst c14
          have H1 : (some false) = some r := by rw [if_neg (show ¬ (false = true) by decide)] at H; exact H
          clear H
          have H := H1
          clear H1
          obtain rfl := Option.some.inj H
          have p201 : 0 ≤ (x19_2 : Int) := oda
          have q201 : x19_2 < (l0_1.length : Int) := oda
          obtain ⟨ad201, e201, hx201_0, hx201_1⟩ := at_T121 HR0_1.out x19_2 p201 q201
          cases e201
          try replace hx201_0 := bct HB.out hx201_0
          try replace hx201_1 := bct HB.out hx201_1
          replace p201 := eq_true p201
          replace q201 := eq_true q201
          go_wp2_with (first | ((with_reducible refine gate_dst (N := 4) rfl ?_); (try (refine gate_guard (by rfl) ?_; dsimp only)); refine box_event ?hg (N := 4) ?hd (cs := #[.int .i64 0, .int .i64 0]) (t := 121) ?hr ?_; (case hd => rfl); (case hg => rfl); (case hr => first | (go_simp; done) | (go_simp; rfl)); intro gb202 hg w25 hbox hb; have n0_ := Aside0.mk (blk_below (g := gb199) (o := .cells #[.int .i64 a0_0, .slice (some ad201) l0_1.length c0_1] 45 (0, 0)) (bvK BK199.out) hb); have n1_ := Aside0.mk (below_step (by repeat (first | (with_reducible first | exact HB.out | apply bwA | apply bwN | apply bwD | refine below_set ?_ GE199.out) | exact HB.out)) hb); have n2_ := Aside0.mk (hbox); have n3_ := Aside0.mk ((by rw [hg]; exact (below_size (by repeat (first | (with_reducible first | exact HB.out | apply bwA | apply bwN | apply bwD | refine below_set ?_ GE199.out) | exact HB.out))) : w.heap.size ≤ gb202)); have n4_ := Aside0.mk ((by rw [hg]; exact (below_size (by repeat (first | (with_reducible first | exact HB.out | apply bwA | apply bwN | apply bwD | refine below_set ?_ GE199.out) | exact HB.out))) : w.heap.size ≤ gb202)); have n5_ := Aside0.mk ((by rw [hg]; exact Nat.ne_of_lt (blk_lt (g := gb199) (o := .cells #[.int .i64 a0_0, .slice (some ad201) l0_1.length c0_1] 45 (0, 0)) (bvK BK199.out)) : gb199 ≠ gb202)); have n6_ := Aside0.mk ((by rw [hg]; exact Nat.ne_of_gt (blk_lt (g := gb199) (o := .cells #[.int .i64 a0_0, .slice (some ad201) l0_1.length c0_1] 45 (0, 0)) (bvK BK199.out)) : gb202 ≠ gb199)); clear BK199; clear HB; have BK199 := n0_; have HB := n1_; have BK202 := n2_; have GW202 := n3_; have GE202 := n4_; have NB199_202 := n5_; have NB202_199 := n6_; clear n0_ n1_ n2_ n3_ n4_ n5_ n6_; clear hb hbox hg; have hnb26 := NB202_199.out; have hnc26 := NB199_202.out; have hcz27_0 : w25.cell? ⟨gb202, 0, none⟩ = some (.int .i64 0) := (blk_cell BK202.out 0).trans rfl; have hcz27_1 : w25.cell? ⟨gb202, 1, none⟩ = some (.int .i64 0) := (blk_cell BK202.out 1).trans rfl; have hfz27_0 := blk_frozen BK202.out 0; have hfz27_1 := blk_frozen BK202.out 1; have hcz28_0 : w25.cell? ⟨gb199, 0, none⟩ = some (.int .i64 a0_0) := (blk_cell BK199.out 0).trans rfl; have hcz28_1 : w25.cell? ⟨gb199, 1, none⟩ = some (.slice (some ad201) l0_1.length c0_1) := (blk_cell BK199.out 1).trans rfl; have hfz28_0 := blk_frozen BK199.out 0; have hfz28_1 := blk_frozen BK199.out 1) | ((with_reducible refine gate_callee (f := 52) rfl ?_); refine goesL_ (some 34) rfl rfl Try.func52 (by kernel_rfl) rfl #[.int .i64 ((rd_T121 l0_1 x19_2).f0), .int .i64 0, .int .i64 (wrap64 ((wrap64 (2 * (wrap64 ((wrap64 (1 + a0_0)) + x19_2)))) - 1))] rfl lmB ?_; (with_reducible refine (impl_in.calls ((rd_T121 l0_1 x19_2).f0) 0 (wrap64 ((wrap64 (2 * (wrap64 ((wrap64 (1 + a0_0)) + x19_2)))) - 1)) false _ A13.out).mono ?_); rintro e w' ⟨rfl, ⟨nd, rfl⟩⟩; refine ⟨_, rfl, ?_⟩))
          go_ret
          exact ⟨ers, by repeat (first | (with_reducible first | exact HB.out | apply bwA | apply bwN | apply bwD | refine below_set ?_ GE199.out | refine below_set ?_ GE202.out) | exact HB.out)⟩
        ·rw [if_neg c12] at H
         exact absurd H (by simp)
       ·rw [if_neg c11] at H
        exact absurd H (by simp)
      ·rw [if_neg c10] at H
       have c10b0 : decide (x19_2 < (l0_1.length : Int)) = false := decide_eq_false c10
       clear c10
       obtain rfl := Option.some.inj H
       go_wp2
       go_ret
       exact ⟨ers, by repeat (first | (with_reducible first | exact HB.out | apply bwA | apply bwN | apply bwD | refine below_set ?_ GE199.out) | exact HB.out)⟩

/-! ### impl_Circuit_isEdge: function 76 -/
def impl_Circuit_isEdge.f (a0_0 : Int) (l0_1 : List (S121)) (a1 : Int) : Option (Bool) := (impl_in.f a1 0 (wrap64 ((wrap64 (2 * (wrap64 ((wrap64 (1 + a0_0)) + (l0_1.length : Int))))) - 1))).bind fun t206 => (some t206)
set_option maxHeartbeats 8000000 in
set_option maxRecDepth 100000 in
theorem impl_Circuit_isEdge.calls (a0_0 : Int) (A0_1 : Option Addr) (c0_1 : Nat) (l0_1 : List (S121)) (a1 : Int) (r : Bool) (w : World) (hr0_1 : Kd.C k121 w A0_1 l0_1.length l0_1) (hc0_1 : l0_1.length ≤ c0_1) (h : impl_Circuit_isEdge.f a0_0 l0_1 a1 = some r) :
  Calls Try.prog 76 #[.agg #[.int .i64 a0_0, .slice A0_1 l0_1.length c0_1], .int .i64 a1] w fun e w' => e = .returned (.bool r) ∧ Below w.heap.size w w' := by
 have hu45 := Try.underlying45
 have HR0_1 := Aside0.mk hr0_1
 have HC0_1 := Aside0.mk hc0_1
 clear hr0_1 hc0_1
 have HB := Aside0.mk (Below.refl w.heap.size w)
 have H : ((impl_in.f a1 0 (wrap64 ((wrap64 (2 * (wrap64 ((wrap64 (1 + a0_0)) + (l0_1.length : Int))))) - 1))).bind fun t206 => (some t206)) = some r := h
 clear h
 replace H := Option.bind_eq_some_iff.mp H
 obtain ⟨t206, A30, H⟩ := H
 replace H : (some t206) = some r := H
 have A3 := Aside0.mk A30
 clear A30
 obtain rfl := Option.some.inj H
 go_enter Try.func76, Try.ntmps76
 go_wp2_with (first | ((with_reducible refine gate_dst (N := 2) rfl ?_); refine box_event ?hg (N := 2) ?hd (cs := #[.int .i64 a0_0, .slice A0_1 l0_1.length c0_1]) (t := 45) ?hr ?_; (case hd => rfl); (case hg => rfl); (case hr => first | (go_simp; done) | (go_simp; rfl)); intro gb205 hg w4 hbox hb; have n0_ := Aside0.mk (below_step (by repeat (first | (with_reducible first | exact HB.out | apply bwA | apply bwN | apply bwD) | exact HB.out)) hb); have n1_ := Aside0.mk (hbox); have n2_ := Aside0.mk ((by rw [hg]; exact (below_size (by repeat (first | (with_reducible first | exact HB.out | apply bwA | apply bwN | apply bwD) | exact HB.out))) : w.heap.size ≤ gb205)); have n3_ := Aside0.mk ((by rw [hg]; exact (below_size (by repeat (first | (with_reducible first | exact HB.out | apply bwA | apply bwN | apply bwD) | exact HB.out))) : w.heap.size ≤ gb205)); clear HB; have HB := n0_; have BK205 := n1_; have GW205 := n2_; have GE205 := n3_; clear n0_ n1_ n2_ n3_; clear hb hbox hg; have hcz5_0 : w4.cell? ⟨gb205, 0, none⟩ = some (.int .i64 a0_0) := (blk_cell BK205.out 0).trans rfl; have hcz5_1 : w4.cell? ⟨gb205, 1, none⟩ = some (.slice A0_1 l0_1.length c0_1) := (blk_cell BK205.out 1).trans rfl; have hfz5_0 := blk_frozen BK205.out 0; have hfz5_1 := blk_frozen BK205.out 1) | ((with_reducible refine gate_callee (f := 52) rfl ?_); refine goesL_ (some 15) rfl rfl Try.func52 (by kernel_rfl) rfl #[.int .i64 a1, .int .i64 0, .int .i64 (wrap64 ((wrap64 (2 * (wrap64 ((wrap64 (1 + a0_0)) + (l0_1.length : Int))))) - 1))] rfl lmB ?_; (with_reducible refine (impl_in.calls a1 0 (wrap64 ((wrap64 (2 * (wrap64 ((wrap64 (1 + a0_0)) + (l0_1.length : Int))))) - 1)) t206 _ A3.out).mono ?_); rintro e w' ⟨rfl, ⟨nd, rfl⟩⟩; refine ⟨_, rfl, ?_⟩))
 go_ret
 exact ⟨ers, by repeat (first | (with_reducible first | exact HB.out | apply bwA | apply bwN | apply bwD | refine below_set ?_ GE205.out) | exact HB.out)⟩

end Go.Proofs.Ytpcompnmadpljaa.QFnDiagramOf
