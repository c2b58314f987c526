-- Written by a program of this session (mk.py). Lean checks it.
import Derived.Test.YtpcckoljocpchaaQFnReorderBackx0
import Derived.Test.YtpcckoljocpchaaQFnReorderBackx2
import Derived.Test.YtpcckoljocpchaaQFnReorderBackx7
namespace Go.Proofs.Ytpcckoljocpchaa.QFnReorderBack
open Go.RowKit Go.Proofs.YtpcckoljocpchaaW.PrintWords Go.Proofs.YtpcckoljocpchaaW.PrintLast Go.Proofs.YtpcckoljocpchaaW.PrintMore
attribute [local go_sem] max2_int min2_int max_two min_two max_three min_three max_four min_four   -- for this text's walks alone
set_option linter.unusedVariables false
set_option linter.unusedSimpArgs false

/-! ### impl_forkingOf: function 117 -/
def impl_forkingOf.seen (l : List S56) : Nat → S56 → Option Int
 | 0 => fun _ => none
 | i + 1 => fun y => if y = rd_T56 l (i : Int) then some ((i : Int) + 2) else impl_forkingOf.seen l i y
def impl_forkingOf.f (a0 : Int) (l : List S56) : Option FS := (impl_Fork_137.f l).bind fun l2 => if ∀ x ∈ l, okF x then some ⟨a0, l2, impl_forkingOf.seen l l.length, false, fun _ => none⟩ else none
set_option maxHeartbeats 4000000 in
set_option maxRecDepth 100000 in
theorem impl_forkingOf.calls (a0 : Int) (A : Option Addr) (c : Nat) (l : List S56) (s : FS) (w : World) (hr : Kd.C k56 w A l.length l) (hc : l.length ≤ c) (h : impl_forkingOf.f a0 l = some s) :
  Calls Try.prog 117 #[.agg #[.int .i64 a0, .slice A l.length c]] w fun e w' => ∃ g, e = .returned (.pointer (some ⟨g, 0, none⟩)) ∧ IsF w' w.heap.size (fun k => w.heap.size ≤ k) g s ∧ Below w.heap.size w w' := by
 have hu25 := Try.underlying48
 have hu71 := Try.underlying56
 have hu113 := Try.underlying146
 unfold impl_forkingOf.f at h
 obtain ⟨l2, h1, h2⟩ := Option.bind_eq_some_iff.mp h
 clear h
 by_cases c1 : ∀ x ∈ l, okF x
 ·rw [if_pos c1] at h2
  obtain rfl := Option.some.inj h2
  have HR := Aside0.mk hr
  have HC := Aside0.mk hc
  have H1 := Aside0.mk h1
  have C1 := Aside0.mk c1
  have HL := Aside0.mk (show l.length < 9000000000000 by
   unfold impl_Fork_137.f at h1
   simp only [Option.bind_some, List.length_nil, Nat.zero_add] at h1
   split at h1
   ·omega
   ·cases h1)
  clear hr hc h1 h2 c1
  go_enter Try.func117, Try.ntmps117
  go_wp2_with ((with_reducible refine gate_dst (N := 1) rfl ?_); refine box_event ?hg (N := 1) ?hd (cs := #[.int .i64 a0, .slice A l.length c]) (t := 48) ?hr ?_; (case hd => rfl); (case hg => rfl); (case hr => first | (go_simp; done) | (go_simp; rfl)); intro g0 hg0 w3 hbox hb; have BX0 := Aside0.mk hbox; have HB3 := Aside0.mk hb; clear hg0 hbox hb)
  refine start_ (n := 11) (S := fun w' => w'.cell? ⟨g0, 0, none⟩ = some (.int .i64 a0) ∧ w'.cell? ⟨g0, 1, none⟩ = some (.slice A l.length c)) (ds := []) (Pt.bm 11 0) (by kernel_rfl) rfl rfl ⟨(blk_cell BX0.out 0).trans rfl, (blk_cell BX0.out 1).trans rfl⟩ (fun hHeld => ?_)
  have HB4 := Aside0.mk (below_step HB3.out (below_drew (Below.refl _ _)))
  have BX4 := Aside0.mk (blk_drew BX0.out)
  generalize w3.drew = w4 at HB4 BX4 hHeld ⊢
  clear HB3 BX0
  refine Pt.pu 0 (some 6) (Pt.bm 11 1) (by kernel_rfl) ?_
  refine Pt.tk 1 (some 7) (Pt.bm 11 3) rfl rfl (by kernel_rfl) hHeld (Or.inl ⟨by rfl, by rintro w' ⟨s0, s1⟩; go_simp; with_reducible rfl⟩) ?_
  refine Pt.pu 2 (some 8) (Pt.bm 11 7) (by kernel_rfl) ?_
  refine Pt.tk 3 (some 9) (Pt.bm 11 15) rfl rfl (by kernel_rfl) hHeld (Or.inl ⟨by rfl, by rintro w' ⟨s0, s1⟩; go_simp; with_reducible rfl⟩) ?_
  refine join_ (σ := Value × Nat × Nat) 3 (Pt.bm 11 255) (fun s_ => [(10, s_.1), (11, .agg #[.int .i64 a0, s_.1]), (12, .map (some s_.2.1)), (13, .map (some s_.2.2))]) (fun s_ w' => Kd.R k56 56 w' w.heap.size (fun k => w.heap.size ≤ k) s_.1 l2 ∧ Mp.Is ekF okF (Value.int .i64) w' s_.2.1 (fun _ => none) ∧ Mp.Is ek3 ok3 (Value.int .i64) w' s_.2.2 (fun _ => none) ∧ s_.2.1 ≠ s_.2.2 ∧ w.heap.size ≤ s_.2.1 ∧ w.heap.size ≤ s_.2.2 ∧ Below w.heap.size w w' ∧ w'.heap[g0]? = some (.cells #[.int .i64 a0, .slice A l.length c] 48 (0, 0))) ?_ ?_
  rotate_left
  ·intro hCont
   refine three_ (i := 4) (j := 6) (k := 7) (Ni := some 10) (Nj := some 12) (Nk := some 13) (Pt.bm 11 31) (Pt.bm 11 79) (Pt.bm 11 143) rfl rfl rfl rfl rfl rfl (by kernel_rfl) (by decide) (by decide) (by decide) (fun K hK => ?_) (fun K hK => ?_) (fun K hK => ?_)
   ·skip
    refine goes_ Try.func137 (by kernel_rfl) rfl #[.slice A l.length c] (by rfl) rfl rfl (by (try simp only [List.map_toArray, List.map_cons, List.map_nil]); first | done | rfl) ?_
    refine (impl_Fork_137.calls A c l l2 _ (Kd.C_below HR.out HB4.out) HC.out H1.out).mono ?_
    rintro e w4 ⟨v4, rfl, hRv, hb⟩
    refine ⟨_, rfl, ?_⟩
    have R4 := Aside0.mk (Kd.R_mono (Kd.R_bound (Kd.R_lower hRv HB4.out.size)) (fun k hk => hk.2.1))
    obtain ⟨A4, c4, e4⟩ := Kd.R_slice hRv
    subst e4
    have HB4 := Aside0.mk (below_step HB4.out hb)
    have BX4 := Aside0.mk (blk_below BX4.out hb)
    refine hK.out _ _ ⟨(blk_cell BX4.out 0).trans rfl, (blk_cell BX4.out 1).trans rfl⟩ (fun hHeld => ?_)
    clear hK K hb
    refine norm_ (a' := ?_) ?_ ?_
    rotate_left
    ·show Act.put _ (some 10) _ = _
     simp only [Act.put, List.setIfInBounds_toArray, List.set_cons_zero, List.set_cons_succ, i64_w, i32_w]
     rfl
    refine Pt.pu 5 (some 11) (Pt.bm 11 63) (by kernel_rfl) ?_
    refine two_ (i := 6) (j := 7) (Ni := some 12) (Nj := some 13) (Pt.bm 11 127) (Pt.bm 11 191) rfl rfl rfl rfl (by kernel_rfl) (by decide) (by decide) (fun K hK => ?_) (fun K hK => ?_)
    ·skip
     refine value_ (w1 := w4.alloc (.map #[] 0)) (v := .map (some w4.heap.size)) (by rfl) rfl rfl ?_
     have hb := below_alloc (Below.refl w4.heap.size w4) (.map #[] 0)
     have M64 := Aside0.mk (Mp.Is.made ekF okF (Value.int .i64) w4)
     have G64 := Aside0.mk HB4.out.size
     have HB64 := Aside0.mk (below_step HB4.out hb)
     have BX64 := Aside0.mk (blk_below BX4.out hb)
     have R64 := Aside0.mk (Kd.R_below R4.out hb)
     refine hK.out _ _ ⟨(blk_cell BX64.out 0).trans rfl, (blk_cell BX64.out 1).trans rfl⟩ (fun hHeld => ?_)
     clear hK K hb
     refine norm_ (a' := ?_) ?_ ?_
     rotate_left
     ·show Act.put _ (some 12) _ = _
      simp only [Act.put, List.setIfInBounds_toArray, List.set_cons_zero, List.set_cons_succ, i64_w, i32_w]
      rfl
     refine one_ (i := 7) (N := some 13) (Pt.bm 11 255) rfl rfl (by kernel_rfl) (by decide) (fun K hK => ?_)
     have NE := Aside0.mk (Nat.ne_of_lt M64.out.lt)
     refine value_ (w1 := (w4.alloc (.map #[] 0)).alloc (.map #[] 0)) (v := .map (some (w4.alloc (.map #[] 0)).heap.size)) (by rfl) rfl rfl ?_
     have hb := below_alloc (Below.refl (w4.alloc (.map #[] 0)).heap.size (w4.alloc (.map #[] 0))) (.map #[] 0)
     have M746 := Aside0.mk (Mp.Is.made ek3 ok3 (Value.int .i64) (w4.alloc (.map #[] 0)))
     have G746 := Aside0.mk HB64.out.size
     have HB746 := Aside0.mk (below_step HB64.out hb)
     have BX746 := Aside0.mk (blk_below BX64.out hb)
     have X746 := Aside0.mk (M64.out.below hb)
     have R746 := Aside0.mk (Kd.R_below R64.out hb)
     refine hK.out _ _ ⟨(blk_cell BX746.out 0).trans rfl, (blk_cell BX746.out 1).trans rfl⟩ (fun hHeld => ?_)
     clear hK K hb
     refine norm_ (a' := ?_) ?_ ?_
     rotate_left
     ·show Act.put _ (some 13) _ = _
      simp only [Act.put, List.setIfInBounds_toArray, List.set_cons_zero, List.set_cons_succ, i64_w, i32_w]
      rfl
     exact norm_ (by simp only [putAll, Act.put, List.setIfInBounds_toArray, List.set_cons_zero, List.set_cons_succ]) (hCont ((.slice A4 l2.length c4), w4.heap.size, (w4.alloc (.map #[] 0)).heap.size) _ ⟨R746.out, X746.out, M746.out, NE.out, G64.out, G746.out, HB746.out, BX746.out⟩)
    ·skip
     refine value_ (w1 := w4.alloc (.map #[] 0)) (v := .map (some w4.heap.size)) (by rfl) rfl rfl ?_
     have hb := below_alloc (Below.refl w4.heap.size w4) (.map #[] 0)
     have M74 := Aside0.mk (Mp.Is.made ek3 ok3 (Value.int .i64) w4)
     have G74 := Aside0.mk HB4.out.size
     have HB74 := Aside0.mk (below_step HB4.out hb)
     have BX74 := Aside0.mk (blk_below BX4.out hb)
     have R74 := Aside0.mk (Kd.R_below R4.out hb)
     refine hK.out _ _ ⟨(blk_cell BX74.out 0).trans rfl, (blk_cell BX74.out 1).trans rfl⟩ (fun hHeld => ?_)
     clear hK K hb
     refine norm_ (a' := ?_) ?_ ?_
     rotate_left
     ·show Act.put _ (some 13) _ = _
      simp only [Act.put, List.setIfInBounds_toArray, List.set_cons_zero, List.set_cons_succ, i64_w, i32_w]
      rfl
     refine one_ (i := 6) (N := some 12) (Pt.bm 11 255) rfl rfl (by kernel_rfl) (by decide) (fun K hK => ?_)
     have NE := Aside0.mk (Nat.ne_of_gt M74.out.lt)
     refine value_ (w1 := (w4.alloc (.map #[] 0)).alloc (.map #[] 0)) (v := .map (some (w4.alloc (.map #[] 0)).heap.size)) (by rfl) rfl rfl ?_
     have hb := below_alloc (Below.refl (w4.alloc (.map #[] 0)).heap.size (w4.alloc (.map #[] 0))) (.map #[] 0)
     have M647 := Aside0.mk (Mp.Is.made ekF okF (Value.int .i64) (w4.alloc (.map #[] 0)))
     have G647 := Aside0.mk HB74.out.size
     have HB647 := Aside0.mk (below_step HB74.out hb)
     have BX647 := Aside0.mk (blk_below BX74.out hb)
     have Y647 := Aside0.mk (M74.out.below hb)
     have R647 := Aside0.mk (Kd.R_below R74.out hb)
     refine hK.out _ _ ⟨(blk_cell BX647.out 0).trans rfl, (blk_cell BX647.out 1).trans rfl⟩ (fun hHeld => ?_)
     clear hK K hb
     refine norm_ (a' := ?_) ?_ ?_
     rotate_left
     ·show Act.put _ (some 12) _ = _
      simp only [Act.put, List.setIfInBounds_toArray, List.set_cons_zero, List.set_cons_succ, i64_w, i32_w]
      rfl
     exact norm_ (by simp only [putAll, Act.put, List.setIfInBounds_toArray, List.set_cons_zero, List.set_cons_succ]) (hCont ((.slice A4 l2.length c4), (w4.alloc (.map #[] 0)).heap.size, w4.heap.size) _ ⟨R647.out, M647.out, Y647.out, NE.out, G647.out, G74.out, HB647.out, BX647.out⟩)
   ·skip
    refine value_ (w1 := w4.alloc (.map #[] 0)) (v := .map (some w4.heap.size)) (by rfl) rfl rfl ?_
    have hb := below_alloc (Below.refl w4.heap.size w4) (.map #[] 0)
    have M6 := Aside0.mk (Mp.Is.made ekF okF (Value.int .i64) w4)
    have G6 := Aside0.mk HB4.out.size
    have HB6 := Aside0.mk (below_step HB4.out hb)
    have BX6 := Aside0.mk (blk_below BX4.out hb)
    refine hK.out _ _ ⟨(blk_cell BX6.out 0).trans rfl, (blk_cell BX6.out 1).trans rfl⟩ (fun hHeld => ?_)
    clear hK K hb
    refine norm_ (a' := ?_) ?_ ?_
    rotate_left
    ·show Act.put _ (some 12) _ = _
     simp only [Act.put, List.setIfInBounds_toArray, List.set_cons_zero, List.set_cons_succ, i64_w, i32_w]
     rfl
    refine two_ (i := 4) (j := 7) (Ni := some 10) (Nj := some 13) (Pt.bm 11 95) (Pt.bm 11 207) rfl rfl rfl rfl (by kernel_rfl) (by decide) (by decide) (fun K hK => ?_) (fun K hK => ?_)
    ·skip
     refine goes_ Try.func137 (by kernel_rfl) rfl #[.slice A l.length c] (by rfl) rfl rfl (by (try simp only [List.map_toArray, List.map_cons, List.map_nil]); first | done | rfl) ?_
     refine (impl_Fork_137.calls A c l l2 _ (Kd.C_below HR.out HB6.out) HC.out H1.out).mono ?_
     rintro e w46 ⟨v46, rfl, hRv, hb⟩
     refine ⟨_, rfl, ?_⟩
     have R46 := Aside0.mk (Kd.R_mono (Kd.R_bound (Kd.R_lower hRv HB6.out.size)) (fun k hk => hk.2.1))
     obtain ⟨A46, c46, e46⟩ := Kd.R_slice hRv
     subst e46
     have HB46 := Aside0.mk (below_step HB6.out hb)
     have BX46 := Aside0.mk (blk_below BX6.out hb)
     have X46 := Aside0.mk (M6.out.below hb)
     refine hK.out _ _ ⟨(blk_cell BX46.out 0).trans rfl, (blk_cell BX46.out 1).trans rfl⟩ (fun hHeld => ?_)
     clear hK K hb
     refine norm_ (a' := ?_) ?_ ?_
     rotate_left
     ·show Act.put _ (some 10) _ = _
      simp only [Act.put, List.setIfInBounds_toArray, List.set_cons_zero, List.set_cons_succ, i64_w, i32_w]
      rfl
     refine Pt.pu 5 (some 11) (Pt.bm 11 127) (by kernel_rfl) ?_
     refine one_ (i := 7) (N := some 13) (Pt.bm 11 255) rfl rfl (by kernel_rfl) (by decide) (fun K hK => ?_)
     have NE := Aside0.mk (Nat.ne_of_lt X46.out.lt)
     refine value_ (w1 := w46.alloc (.map #[] 0)) (v := .map (some w46.heap.size)) (by rfl) rfl rfl ?_
     have hb := below_alloc (Below.refl w46.heap.size w46) (.map #[] 0)
     have M764 := Aside0.mk (Mp.Is.made ek3 ok3 (Value.int .i64) w46)
     have G764 := Aside0.mk HB46.out.size
     have HB764 := Aside0.mk (below_step HB46.out hb)
     have BX764 := Aside0.mk (blk_below BX46.out hb)
     have R764 := Aside0.mk (Kd.R_below R46.out hb)
     have X764 := Aside0.mk (X46.out.below hb)
     refine hK.out _ _ ⟨(blk_cell BX764.out 0).trans rfl, (blk_cell BX764.out 1).trans rfl⟩ (fun hHeld => ?_)
     clear hK K hb
     refine norm_ (a' := ?_) ?_ ?_
     rotate_left
     ·show Act.put _ (some 13) _ = _
      simp only [Act.put, List.setIfInBounds_toArray, List.set_cons_zero, List.set_cons_succ, i64_w, i32_w]
      rfl
     exact norm_ (by simp only [putAll, Act.put, List.setIfInBounds_toArray, List.set_cons_zero, List.set_cons_succ]) (hCont ((.slice A46 l2.length c46), w4.heap.size, w46.heap.size) _ ⟨R764.out, X764.out, M764.out, NE.out, G6.out, G764.out, HB764.out, BX764.out⟩)
    ·skip
     have NE := Aside0.mk (Nat.ne_of_lt M6.out.lt)
     refine value_ (w1 := (w4.alloc (.map #[] 0)).alloc (.map #[] 0)) (v := .map (some (w4.alloc (.map #[] 0)).heap.size)) (by rfl) rfl rfl ?_
     have hb := below_alloc (Below.refl (w4.alloc (.map #[] 0)).heap.size (w4.alloc (.map #[] 0))) (.map #[] 0)
     have M76 := Aside0.mk (Mp.Is.made ek3 ok3 (Value.int .i64) (w4.alloc (.map #[] 0)))
     have G76 := Aside0.mk HB6.out.size
     have HB76 := Aside0.mk (below_step HB6.out hb)
     have BX76 := Aside0.mk (blk_below BX6.out hb)
     have X76 := Aside0.mk (M6.out.below hb)
     refine hK.out _ _ ⟨(blk_cell BX76.out 0).trans rfl, (blk_cell BX76.out 1).trans rfl⟩ (fun hHeld => ?_)
     clear hK K hb
     refine norm_ (a' := ?_) ?_ ?_
     rotate_left
     ·show Act.put _ (some 13) _ = _
      simp only [Act.put, List.setIfInBounds_toArray, List.set_cons_zero, List.set_cons_succ, i64_w, i32_w]
      rfl
     refine one_ (i := 4) (N := some 10) (Pt.bm 11 223) rfl rfl (by kernel_rfl) (by decide) (fun K hK => ?_)
     refine goes_ Try.func137 (by kernel_rfl) rfl #[.slice A l.length c] (by rfl) rfl rfl (by (try simp only [List.map_toArray, List.map_cons, List.map_nil]); first | done | rfl) ?_
     refine (impl_Fork_137.calls A c l l2 _ (Kd.C_below HR.out HB76.out) HC.out H1.out).mono ?_
     rintro e w467 ⟨v467, rfl, hRv, hb⟩
     refine ⟨_, rfl, ?_⟩
     have R467 := Aside0.mk (Kd.R_mono (Kd.R_bound (Kd.R_lower hRv HB76.out.size)) (fun k hk => hk.2.1))
     obtain ⟨A467, c467, e467⟩ := Kd.R_slice hRv
     subst e467
     have HB467 := Aside0.mk (below_step HB76.out hb)
     have BX467 := Aside0.mk (blk_below BX76.out hb)
     have Y467 := Aside0.mk (M76.out.below hb)
     have X467 := Aside0.mk (X76.out.below hb)
     refine hK.out _ _ ⟨(blk_cell BX467.out 0).trans rfl, (blk_cell BX467.out 1).trans rfl⟩ (fun hHeld => ?_)
     clear hK K hb
     refine norm_ (a' := ?_) ?_ ?_
     rotate_left
     ·show Act.put _ (some 10) _ = _
      simp only [Act.put, List.setIfInBounds_toArray, List.set_cons_zero, List.set_cons_succ, i64_w, i32_w]
      rfl
     refine Pt.pu 5 (some 11) (Pt.bm 11 255) (by kernel_rfl) ?_
     exact norm_ (by simp only [putAll, Act.put, List.setIfInBounds_toArray, List.set_cons_zero, List.set_cons_succ]) (hCont ((.slice A467 l2.length c467), w4.heap.size, (w4.alloc (.map #[] 0)).heap.size) _ ⟨R467.out, X467.out, Y467.out, NE.out, G6.out, G76.out, HB467.out, BX467.out⟩)
   ·skip
    refine value_ (w1 := w4.alloc (.map #[] 0)) (v := .map (some w4.heap.size)) (by rfl) rfl rfl ?_
    have hb := below_alloc (Below.refl w4.heap.size w4) (.map #[] 0)
    have M7 := Aside0.mk (Mp.Is.made ek3 ok3 (Value.int .i64) w4)
    have G7 := Aside0.mk HB4.out.size
    have HB7 := Aside0.mk (below_step HB4.out hb)
    have BX7 := Aside0.mk (blk_below BX4.out hb)
    refine hK.out _ _ ⟨(blk_cell BX7.out 0).trans rfl, (blk_cell BX7.out 1).trans rfl⟩ (fun hHeld => ?_)
    clear hK K hb
    refine norm_ (a' := ?_) ?_ ?_
    rotate_left
    ·show Act.put _ (some 13) _ = _
     simp only [Act.put, List.setIfInBounds_toArray, List.set_cons_zero, List.set_cons_succ, i64_w, i32_w]
     rfl
    refine two_ (i := 4) (j := 6) (Ni := some 10) (Nj := some 12) (Pt.bm 11 159) (Pt.bm 11 207) rfl rfl rfl rfl (by kernel_rfl) (by decide) (by decide) (fun K hK => ?_) (fun K hK => ?_)
    ·skip
     refine goes_ Try.func137 (by kernel_rfl) rfl #[.slice A l.length c] (by rfl) rfl rfl (by (try simp only [List.map_toArray, List.map_cons, List.map_nil]); first | done | rfl) ?_
     refine (impl_Fork_137.calls A c l l2 _ (Kd.C_below HR.out HB7.out) HC.out H1.out).mono ?_
     rintro e w47 ⟨v47, rfl, hRv, hb⟩
     refine ⟨_, rfl, ?_⟩
     have R47 := Aside0.mk (Kd.R_mono (Kd.R_bound (Kd.R_lower hRv HB7.out.size)) (fun k hk => hk.2.1))
     obtain ⟨A47, c47, e47⟩ := Kd.R_slice hRv
     subst e47
     have HB47 := Aside0.mk (below_step HB7.out hb)
     have BX47 := Aside0.mk (blk_below BX7.out hb)
     have Y47 := Aside0.mk (M7.out.below hb)
     refine hK.out _ _ ⟨(blk_cell BX47.out 0).trans rfl, (blk_cell BX47.out 1).trans rfl⟩ (fun hHeld => ?_)
     clear hK K hb
     refine norm_ (a' := ?_) ?_ ?_
     rotate_left
     ·show Act.put _ (some 10) _ = _
      simp only [Act.put, List.setIfInBounds_toArray, List.set_cons_zero, List.set_cons_succ, i64_w, i32_w]
      rfl
     refine Pt.pu 5 (some 11) (Pt.bm 11 191) (by kernel_rfl) ?_
     refine one_ (i := 6) (N := some 12) (Pt.bm 11 255) rfl rfl (by kernel_rfl) (by decide) (fun K hK => ?_)
     have NE := Aside0.mk (Nat.ne_of_gt Y47.out.lt)
     refine value_ (w1 := w47.alloc (.map #[] 0)) (v := .map (some w47.heap.size)) (by rfl) rfl rfl ?_
     have hb := below_alloc (Below.refl w47.heap.size w47) (.map #[] 0)
     have M674 := Aside0.mk (Mp.Is.made ekF okF (Value.int .i64) w47)
     have G674 := Aside0.mk HB47.out.size
     have HB674 := Aside0.mk (below_step HB47.out hb)
     have BX674 := Aside0.mk (blk_below BX47.out hb)
     have R674 := Aside0.mk (Kd.R_below R47.out hb)
     have Y674 := Aside0.mk (Y47.out.below hb)
     refine hK.out _ _ ⟨(blk_cell BX674.out 0).trans rfl, (blk_cell BX674.out 1).trans rfl⟩ (fun hHeld => ?_)
     clear hK K hb
     refine norm_ (a' := ?_) ?_ ?_
     rotate_left
     ·show Act.put _ (some 12) _ = _
      simp only [Act.put, List.setIfInBounds_toArray, List.set_cons_zero, List.set_cons_succ, i64_w, i32_w]
      rfl
     exact norm_ (by simp only [putAll, Act.put, List.setIfInBounds_toArray, List.set_cons_zero, List.set_cons_succ]) (hCont ((.slice A47 l2.length c47), w47.heap.size, w4.heap.size) _ ⟨R674.out, M674.out, Y674.out, NE.out, G674.out, G7.out, HB674.out, BX674.out⟩)
    ·skip
     have NE := Aside0.mk (Nat.ne_of_gt M7.out.lt)
     refine value_ (w1 := (w4.alloc (.map #[] 0)).alloc (.map #[] 0)) (v := .map (some (w4.alloc (.map #[] 0)).heap.size)) (by rfl) rfl rfl ?_
     have hb := below_alloc (Below.refl (w4.alloc (.map #[] 0)).heap.size (w4.alloc (.map #[] 0))) (.map #[] 0)
     have M67 := Aside0.mk (Mp.Is.made ekF okF (Value.int .i64) (w4.alloc (.map #[] 0)))
     have G67 := Aside0.mk HB7.out.size
     have HB67 := Aside0.mk (below_step HB7.out hb)
     have BX67 := Aside0.mk (blk_below BX7.out hb)
     have Y67 := Aside0.mk (M7.out.below hb)
     refine hK.out _ _ ⟨(blk_cell BX67.out 0).trans rfl, (blk_cell BX67.out 1).trans rfl⟩ (fun hHeld => ?_)
     clear hK K hb
     refine norm_ (a' := ?_) ?_ ?_
     rotate_left
     ·show Act.put _ (some 12) _ = _
      simp only [Act.put, List.setIfInBounds_toArray, List.set_cons_zero, List.set_cons_succ, i64_w, i32_w]
      rfl
     refine one_ (i := 4) (N := some 10) (Pt.bm 11 223) rfl rfl (by kernel_rfl) (by decide) (fun K hK => ?_)
     refine goes_ Try.func137 (by kernel_rfl) rfl #[.slice A l.length c] (by rfl) rfl rfl (by (try simp only [List.map_toArray, List.map_cons, List.map_nil]); first | done | rfl) ?_
     refine (impl_Fork_137.calls A c l l2 _ (Kd.C_below HR.out HB67.out) HC.out H1.out).mono ?_
     rintro e w476 ⟨v476, rfl, hRv, hb⟩
     refine ⟨_, rfl, ?_⟩
     have R476 := Aside0.mk (Kd.R_mono (Kd.R_bound (Kd.R_lower hRv HB67.out.size)) (fun k hk => hk.2.1))
     obtain ⟨A476, c476, e476⟩ := Kd.R_slice hRv
     subst e476
     have HB476 := Aside0.mk (below_step HB67.out hb)
     have BX476 := Aside0.mk (blk_below BX67.out hb)
     have X476 := Aside0.mk (M67.out.below hb)
     have Y476 := Aside0.mk (Y67.out.below hb)
     refine hK.out _ _ ⟨(blk_cell BX476.out 0).trans rfl, (blk_cell BX476.out 1).trans rfl⟩ (fun hHeld => ?_)
     clear hK K hb
     refine norm_ (a' := ?_) ?_ ?_
     rotate_left
     ·show Act.put _ (some 10) _ = _
      simp only [Act.put, List.setIfInBounds_toArray, List.set_cons_zero, List.set_cons_succ, i64_w, i32_w]
      rfl
     refine Pt.pu 5 (some 11) (Pt.bm 11 255) (by kernel_rfl) ?_
     exact norm_ (by simp only [putAll, Act.put, List.setIfInBounds_toArray, List.set_cons_zero, List.set_cons_succ]) (hCont ((.slice A476 l2.length c476), (w4.alloc (.map #[] 0)).heap.size, w4.heap.size) _ ⟨R476.out, X476.out, Y476.out, NE.out, G67.out, G7.out, HB476.out, BX476.out⟩)
  rintro ⟨v0, b1, b2⟩ w5 ⟨hRv, hm1, hm2, hne, hb1, hb2, hb, hbx⟩
  obtain ⟨A5, c5, rfl⟩ := Kd.R_slice hRv
  refine norm_ (a' := ?_) ?_ ?_
  rotate_left
  ·simp only [putAll, Act.put, List.setIfInBounds_toArray, List.set_cons_zero, List.set_cons_succ]
   rfl
  have HR5 := Aside0.mk hRv
  have M5 := Aside0.mk hm1
  have M5b := Aside0.mk hm2
  have KS := Aside0.mk (And.intro hne (And.intro hb1 hb2))
  have HB5 := Aside0.mk hb
  have BX5 := Aside0.mk hbx
  clear hRv hm1 hm2 hne hb1 hb2 hb hbx hHeld HB4 BX4
  refine Pt.pu 8 (some 14) (Pt.bm 11 511) (by kernel_rfl) ?_
  refine one_ (i := 9) (N := some 15) (Pt.bm 11 1023) rfl rfl (by kernel_rfl) (by decide) (fun K hK => ?_)
  refine box_step (by rfl) (N := 15) rfl (cs := #[.int .i64 a0, .slice A5 l2.length c5, .map (some b1), .bool false, .map (some b2)]) (t := 146) ?hr ?_
  case hr => first | (go_simp; done) | (go_simp; rfl)
  intro g hg w6 hbox hb
  have BG6 := Aside0.mk hbox
  have HG := Aside0.mk (show w.heap.size ≤ g by rw [hg]; exact HB5.out.size)
  have BX6 := Aside0.mk (blk_below BX5.out hb)
  have HR6 := Aside0.mk (Kd.R_below HR5.out hb)
  have M6 := Aside0.mk (M5.out.below hb)
  have M6b := Aside0.mk (M5b.out.below hb)
  have HB6 := Aside0.mk (below_step HB5.out hb)
  refine hK.out _ _ ⟨(blk_cell BX6.out 0).trans rfl, (blk_cell BX6.out 1).trans rfl⟩ (fun hHeld => ?_)
  clear hK K hb hbox hg HB5 BX5 HR5 M5 M5b
  refine norm_ (a' := ?_) ?_ ?_
  rotate_left
  ·show Act.put _ (some 15) _ = _
   simp only [Act.put, List.setIfInBounds_toArray, List.set_cons_zero, List.set_cons_succ, i64_w, i32_w]
   rfl
  refine Pt.pu 10 (some 3) (Pt.bm 11 2047) (by kernel_rfl) ?_
  refine done_ (by kernel_rfl) ?_
  have hx1 : w6.cell? ⟨g0, 1, none⟩ = some (.slice A l.length c) := (blk_cell BX6.out 1).trans rfl
  clear hHeld
  go_wp2
  clear hx1
  go_loopg [19] l.length (fun gg s19 wr => ∃ (i : Nat), s19 = .int .i64 (i : Int) ∧ Aside0 (i + gg = l.length) ∧ Aside0 (wr.heap[g]? = some (.cells #[.int .i64 a0, .slice A5 l2.length c5, .map (some b1), .bool false, .map (some b2)] 146 (0, 0))) ∧ Aside0 (Kd.R k56 56 wr w.heap.size (fun k => w.heap.size ≤ k) (.slice A5 l2.length c5) l2) ∧ Aside0 (Mp.Is ekF okF (Value.int .i64) wr b1 (impl_forkingOf.seen l i)) ∧ Aside0 (Mp.Is ek3 ok3 (Value.int .i64) wr b2 (fun _ => none)) ∧ Aside0 (Below w.heap.size w wr))
  case atStart => exact ⟨0, rfl, ⟨by omega⟩, BG6, HR6, M6, M6b, HB6⟩
  case round =>
   clear BG6 BX6 HR6 M6 M6b HB6
   obtain ⟨i, rfl, HI, BG, HRr, M, Mb, HB⟩ := hrel
   by_cases c2 : i < l.length
   ·obtain ⟨k1, rfl⟩ : ∃ k1, gk = k1 + 1 := ⟨gk - 1, by have := HI.out; omega⟩
    have c2a : (i : Int) < (l.length : Int) := by omega
    have c2b : decide ((i : Int) < (l.length : Int)) = true := decide_eq_true c2a
    have c2c : (0 : Int) ≤ (i : Int) := by omega
    have c2d : decide ((0 : Int) ≤ (i : Int)) = true := decide_eq_true c2c
    obtain ⟨ad, rfl, hx0, hx1, hx2⟩ := at_T56 HR.out (i : Int) c2c c2a
    have OK := Aside0.mk (C1.out (rd_T56 l (i : Int)) (by unfold rd_T56; rw [List.getD_eq_getElem?_getD, Int.toNat_natCast, List.getElem?_eq_getElem c2]; exact List.getElem_mem c2))
    obtain ⟨x, hx⟩ : ∃ x, rd_T56 l (i : Int) = x := ⟨_, rfl⟩
    rw [hx] at hx0 hx1 hx2 OK
    simp only [Int.toNat_natCast] at hx0 hx1 hx2
    have HX := Aside0.mk hx
    replace hx0 := bct HB.out hx0
    replace hx1 := bct HB.out hx1
    replace hx2 := bct HB.out hx2
    have hw1 : wrap64 ((i : Int) + 2) = (i : Int) + 2 := by have := HL.out; unfold wrap64; omega
    have hw1' : (IntKind.i64.wrap ((i : Int) + 2)) = (i : Int) + 2 := (i64_w _).trans hw1
    have hw2 : wrap64 ((i : Int) + 1) = (i : Int) + 1 := by have := HL.out; unfold wrap64; omega
    have hw2' : (IntKind.i64.wrap ((i : Int) + 1)) = (i : Int) + 1 := (i64_w _).trans hw2
    clear hx
    go_wp2_with ((with_reducible refine gate_dst (N := 5) rfl ?_); refine box_event ?hg (N := 5) ?hd (cs := #[.int .i64 0, .int .i64 0, .int .i64 0]) (t := 56) ?hr ?_; (case hd => rfl); (case hg => rfl); (case hr => first | (go_simp; done) | (go_simp; rfl)); intro gb hgb w7 hbox hb; have BX0 := Aside0.mk hbox; have HB7 := Aside0.mk hb; have hz0 : w7.cell? ⟨gb, 0, none⟩ = some (.int .i64 0) := (blk_cell BX0.out 0).trans rfl; have hz1 : w7.cell? ⟨gb, 1, none⟩ = some (.int .i64 0) := (blk_cell BX0.out 1).trans rfl; have hz2 : w7.cell? ⟨gb, 2, none⟩ = some (.int .i64 0) := (blk_cell BX0.out 2).trans rfl; have hy0 := blk_frozen BX0.out 0; have hy1 := blk_frozen BX0.out 1; have hy2 := blk_frozen BX0.out 2; have HGB := Aside0.mk hgb; clear hgb hbox hb)
    have n0 : Aside0 (Below wr.heap.size wr (((w7.setCell ⟨gb, 0, none⟩ (.int .i64 x.f0)).setCell ⟨gb, 1, none⟩ (.int .i64 x.f1)).setCell ⟨gb, 2, none⟩ (.int .i64 x.f2))) := ⟨below_set (below_set (below_set HB7.out (Nat.le_of_eq HGB.out.symm)) (Nat.le_of_eq HGB.out.symm)) (Nat.le_of_eq HGB.out.symm)⟩
    have n1 : Aside0 ((((w7.setCell ⟨gb, 0, none⟩ (.int .i64 x.f0)).setCell ⟨gb, 1, none⟩ (.int .i64 x.f1)).setCell ⟨gb, 2, none⟩ (.int .i64 x.f2)).heap[gb]? = some (.cells #[.int .i64 x.f0, .int .i64 x.f1, .int .i64 x.f2] 56 (0, 0))) := ⟨blk_put (blk_put (blk_put BX0.out 0 _ rfl) 1 _ rfl) 2 _ rfl⟩
    generalize (((w7.setCell ⟨gb, 0, none⟩ (.int .i64 x.f0)).setCell ⟨gb, 1, none⟩ (.int .i64 x.f1)).setCell ⟨gb, 2, none⟩ (.int .i64 x.f2)) = w8 at n0 n1 ⊢
    clear hz0 hz1 hz2 hy0 hy1 hy2 BX0 HB7 hx0 hx1 hx2
    have BG8 := Aside0.mk (blk_below BG.out n0.out)
    refine start_ (n := 8) (S := fun w' => w'.cell? ⟨g, 2, none⟩ = some (.map (some b1)) ∧ w'.cell? ⟨gb, 0, none⟩ = some (.int .i64 x.f0) ∧ w'.cell? ⟨gb, 1, none⟩ = some (.int .i64 x.f1) ∧ w'.cell? ⟨gb, 2, none⟩ = some (.int .i64 x.f2)) (ds := [7]) (Pt.bm 8 0) (by kernel_rfl) rfl rfl ⟨(blk_cell BG8.out 2).trans rfl, (blk_cell n1.out 0).trans rfl, (blk_cell n1.out 1).trans rfl, (blk_cell n1.out 2).trans rfl⟩ (fun hHeld => ?_)
    have HB9 := Aside0.mk (below_step n0.out (below_drew (Below.refl _ _)))
    generalize w8.drew = w9 at HB9 hHeld ⊢
    clear n0 n1 BG8
    have BG9 := Aside0.mk (blk_below BG.out HB9.out)
    have M9 := Aside0.mk (M.out.below HB9.out)
    have M9b := Aside0.mk (Mb.out.below HB9.out)
    have HR9 := Aside0.mk (Kd.R_below HRr.out HB9.out)
    have HBB := Aside0.mk (below_step HB.out HB9.out)
    refine Pt.pu 0 (some 24) (Pt.bm 8 1) (by kernel_rfl) ?_
    refine Pt.pu 1 (some 25) (Pt.bm 8 3) (by kernel_rfl) ?_
    refine Pt.pu 2 (some 26) (Pt.bm 8 7) (by kernel_rfl) ?_
    refine Pt.tk 3 (some 27) (Pt.bm 8 15) rfl rfl (by kernel_rfl) hHeld (Or.inl ⟨by rfl, by rintro w' ⟨s0, s1, s2, s3⟩; go_simp; with_reducible rfl⟩) ?_
    refine Pt.tk 4 (some 28) (Pt.bm 8 31) rfl rfl (by kernel_rfl) hHeld (Or.inl ⟨by rfl, by rintro w' ⟨s0, s1, s2, s3⟩; go_simp; with_reducible rfl⟩) ?_
    refine Pt.pu 5 (some 29) (Pt.bm 8 63) (by kernel_rfl) ?_
    refine Pt.pu 6 (some 30) (Pt.bm 8 127) (by kernel_rfl) ?_
    refine last_ (i := 7) (N := none) (Pt.bm 8 255) rfl rfl (by kernel_rfl) (by decide) (fun K hK => ?_)
    refine Mp.store_step (by rfl) rfl (.tmp 27) (.tmp 28) (.tmp 30) rfl rfl M9.out keyF Try.underlying143 x rfl OK.out ((i : Int) + 2) ?hv ?_
    case hv =>
     show Value.int .i64 _ = _
     first | rw [hw1] | rw [hw1'] | simp [hw1, hw1']
    intro w10 hM10 hg10 hz10
    refine hK.out _ _ ?_
    clear hK K hHeld
    refine done_ (by kernel_rfl) ?_
    have BG10 := Aside0.mk (blk_grown BG9.out hg10 (by simpa using (M9.out.ne_blk BG9.out).symm))
    have M10b := Aside0.mk (M9b.out.grown hg10 (by simpa using KS.out.1.symm))
    have HO10 := Aside0.mk (Kd.R_map HR9.out M9.out hg10)
    have HB10 := Aside0.mk (pw_below_grown HBB.out (some b1) (by exact HBB.out.size) hg10 (fun k hk => by cases hk; exact KS.out.2.1))
    have M10 : Aside0 (Mp.Is ekF okF (Value.int .i64) w10 b1 (impl_forkingOf.seen l (i + 1))) := ⟨by
     have e : impl_forkingOf.seen l (i + 1) = fun y' => if y' = x then some ((i : Int) + 2) else impl_forkingOf.seen l i y' := by
      funext y'
      rw [← HX.out]
      rfl
     rw [e]
     exact hM10⟩
    clear hM10 hg10 hz10
    go_wp2
    go_roundg k1
    case measure => exact Nat.lt_succ_self _
    case rel => exact ⟨i + 1, by first | rfl | (simp only [Int.natCast_add]; rfl) | simp [hw2, hw2'], ⟨by have := HI.out; omega⟩, BG10, HO10, M10, M10b, HB10⟩
   ·have hi : i = l.length := by have := HI.out; omega
    subst hi
    have c2b : decide ((l.length : Int) < (l.length : Int)) = false := decide_eq_false (by omega)
    go_wp2
    go_ret
    exact ⟨g, rfl, ⟨_, b1, b2, BG.out, HRr.out, M.out, Mb.out, KS.out.1, HG.out, KS.out.2.1, KS.out.2.2, HG.out, KS.out.2.1, KS.out.2.2⟩, HB.out⟩
 ·rw [if_neg c1] at h2
  cases h2

/-! ### impl_Fork_138: function 138 -/
def impl_Fork_138.f (l0 : List (S56)) : Option (List (S56)) := if l0.length ≤ 5864062014805 then some l0 else none
set_option maxHeartbeats 400000 in
set_option maxRecDepth 100000 in
theorem impl_Fork_138.calls (A0 : Option Addr) (c0 : Nat) (l0 : List (S56)) (r : List (S56)) (w : World) (hr0 : Kd.C k56 w A0 l0.length l0) (hc0 : l0.length ≤ c0) (h : impl_Fork_138.f l0 = some r) :
  Calls Try.prog 138 #[.slice A0 l0.length c0] w fun e w' => ∃ v0_ : Value, e = .returned (v0_) ∧ Kd.R k56 56 w' w.heap.size (fun _ => True) v0_ r ∧ Below w.heap.size w w' := by
 unfold impl_Fork_138.f at h
 by_cases c1 : l0.length ≤ 5864062014805
 ·rw [if_pos c1] at h
  obtain rfl := Option.some.inj h
  clear h
  have HR0 := Aside0.mk hr0
  have C1 := Aside0.mk c1
  clear hr0 c1
  by_cases c2 : l0.length = 0
  ·have c2b : ((l0.length : Int) == 0) = true := by rw [beq_iff_eq]; omega
   have HL := Aside0.mk (List.eq_nil_of_length_eq_zero c2)
   clear c2
   go_enter Try.func138, Try.ntmps138
   go_wp2
   go_ret
   exact ⟨_, rfl, by rw [HL.out]; exact Kd.R_nil _ _ _ _ _, Below.refl _ _⟩
  ·have c2b : ((l0.length : Int) == 0) = false := by rw [beq_eq_false_iff_ne]; omega
   have c2c : (l0.length == 0) = false := by rw [beq_eq_false_iff_ne]; omega
   have HP := Aside0.mk (Nat.pos_of_ne_zero c2)
   clear c2
   go_enter Try.func138, Try.ntmps138
   go_wp2_with (first | ((with_reducible refine gate_dst (N := 9) rfl ?_); refine Kd.R_make k56 _ 56 rfl (N := 9) rfl 46 _ _ rfl (l0.length : Int) rfl rfl Try.underlying46 (.agg #[(.int .i64 0), (.int .i64 0), (.int .i64 0)]) 24 info56 rfl (by decide) (by omega) z56 (ok := fun _ => True) (okp := fun _ => True) (k56_mkM _ _ _ z56 ) (fun _ hk => hk) trivial (by omega) (by have := C1.out; omega) (Below.refl _ _) (Nat.le_refl _) ?_; intro v178 w4 ho5 hb hg_ hnew_; clear hg_ hnew_; have HO := Aside0.mk ho5; have HB := Aside0.mk hb; clear hb ho5) | ((with_reducible refine gate_dst (N := 12) rfl ?_); refine Copy.R_copyK k56 (w0 := w) (xs := List.replicate (l0.length : Int).toNat z56) (ys := l0) w.heap.size 56 rfl _ _ 46 46 rfl Try.underlying46 (by kernel_rfl) (okp := fun _ => False) rfl rfl (by simp) HP.out HO.out (Kd.C_below HR0.out HB.out) (fun _ _ h_ => h_) (fun _ h_ => absurd h_ (by simp)) HB.out ?_; intro w5 ho5 hb; clear HB; have HO5 := Aside0.mk ho5; have HB := Aside0.mk hb; clear hb ho5))
   go_ret
   exact ⟨_, rfl, HO5.out, HB.out⟩
 ·rw [if_neg c1] at h
  exact absurd h (by simp)

/-! ### impl_forking_done: function 118 -/
def impl_forking_done.f (s : FS) (n : Int) : Option (Int × List S56 × Int) := if s.full = true then some (0, [], -1) else (impl_Fork_138.f s.forks).bind fun l => some (s.vars, l, n)
set_option maxHeartbeats 4000000 in
set_option maxRecDepth 100000 in
theorem impl_forking_done.calls (s : FS) (n r1 : Int) (r2 : List S56) (r3 : Int) (base : Nat) (ok : Nat → Prop) (g : Nat) (w : World) (hI : IsF w base ok g s) (h : impl_forking_done.f s n = some (r1, r2, r3)) :
  Calls Try.prog 118 #[.pointer (some ⟨g, 0, none⟩), .int .i64 n] w fun e w' => ∃ v1 : Value, e = .returned (.tuple #[.agg #[.int .i64 r1, v1], .int .i64 r3]) ∧ Kd.R k56 56 w' w.heap.size (fun _ => True) v1 r2 ∧ Below w.heap.size w w' := by
 have hu25 := Try.underlying48
 have hu71 := Try.underlying56
 have hu113 := Try.underlying146
 obtain ⟨u, b1, b2, hg, hR, _⟩ := hI
 obtain ⟨A, c, rfl⟩ := Kd.R_slice hR
 have BG := Aside0.mk hg
 have HR := Aside0.mk (Kd.R_reads' hR).2.2
 have HC := Aside0.mk (Kd.R_reads' hR).2.1
 unfold impl_forking_done.f at h
 have HLT := Aside0.mk (blk_lt hg)
 clear hR hg
 by_cases c1 : s.full = true
 ·rw [if_pos c1] at h
  simp only [Option.some.injEq, Prod.mk.injEq] at h
  obtain ⟨rfl, rfl, rfl⟩ := h
  go_enter Try.func118, Try.ntmps118
  go_wp2_with ((with_reducible refine gate_dst (N := 4) rfl ?_); refine box_event ?hg (N := 4) ?hd (cs := #[.int .i64 0, .slice none 0 0]) (t := 48) ?hr ?_; (case hd => rfl); (case hg => rfl); (case hr => first | (go_simp; done) | (go_simp; rfl)); intro gb hgb w3 hbox hb; have BX0 := Aside0.mk hbox; have HB3 := Aside0.mk hb; have hz0 : w3.cell? ⟨gb, 0, none⟩ = some (.int .i64 0) := (blk_cell BX0.out 0).trans rfl; have hz1 : w3.cell? ⟨gb, 1, none⟩ = some (.slice none 0 0) := (blk_cell BX0.out 1).trans rfl; have hy0 := blk_frozen BX0.out 0; have hy1 := blk_frozen BX0.out 1; have HGB := Aside0.mk hgb; have BG3 := Aside0.mk (blk_below BG.out hb); have hi3 : w3.cell? ⟨g, 3, none⟩ = some (.bool true) := (blk_cell BG3.out 3).trans (by rw [← c1]; rfl); clear hgb hbox hb)
  refine bodyPost_ret (results_ct rfl _ _ gb 48 #[.int .i64 0, .slice none 0 0] (0, 0) _ rfl (blk_put (blk_put BX0.out 0 _ rfl) 1 _ rfl) Try.underlying48 rfl (by kernel_rfl)) rfl ?_
  exact ⟨_, rfl, Kd.R_nil _ _ _ _ _, below_set (below_set HB3.out (Nat.le_of_eq HGB.out.symm)) (Nat.le_of_eq HGB.out.symm)⟩
 ·rw [if_neg c1] at h
  obtain ⟨l, h1, h2⟩ := Option.bind_eq_some_iff.mp h
  simp only [Option.some.injEq, Prod.mk.injEq] at h2
  obtain ⟨rfl, rfl, rfl⟩ := h2
  have H1 := Aside0.mk h1
  replace c1 := Bool.eq_false_iff.mpr c1
  clear h h1
  go_enter Try.func118, Try.ntmps118
  go_wp2_with ((with_reducible refine gate_dst (N := 4) rfl ?_); refine box_event ?hg (N := 4) ?hd (cs := #[.int .i64 0, .slice none 0 0]) (t := 48) ?hr ?_; (case hd => rfl); (case hg => rfl); (case hr => first | (go_simp; done) | (go_simp; rfl)); intro gb hgb w3 hbox hb; have BX0 := Aside0.mk hbox; have HB3 := Aside0.mk hb; have HGB := Aside0.mk hgb; have BG3 := Aside0.mk (blk_below BG.out hb); have hi3 : w3.cell? ⟨g, 3, none⟩ = some (.bool false) := (blk_cell BG3.out 3).trans (by rw [← c1]; rfl); clear hgb hbox hb)
  refine start_ (n := 15) (S := fun w' => w'.cell? ⟨g, 0, none⟩ = some (.int .i64 s.vars) ∧ w'.cell? ⟨g, 1, none⟩ = some (.slice A s.forks.length c)) (ds := [13]) (Pt.bm 15 0) (by kernel_rfl) rfl rfl ⟨(blk_cell BG3.out 0).trans rfl, (blk_cell BG3.out 1).trans rfl⟩ (fun hHeld => ?_)
  have hd1 : Below w3.heap.size w3 w3.drew := below_drew (Below.refl _ _)
  have n0 := Aside0.mk (below_step HB3.out hd1)
  have n1 := Aside0.mk (blk_drew BX0.out)
  clear hi3
  generalize w3.drew = w4 at n0 n1 hHeld ⊢
  clear hd1 HB3 BX0 BG3
  have HB4 := n0
  have BX4 := n1
  clear n0 n1
  have BG4 := Aside0.mk (blk_below BG.out HB4.out)
  have HR4 := Aside0.mk (Kd.C_below HR.out HB4.out)
  refine Pt.pu 0 (some 11) (Pt.bm 15 1) (by kernel_rfl) ?_
  refine Pt.pu 1 (some 12) (Pt.bm 15 3) (by kernel_rfl) ?_
  refine Pt.pu 2 (some 13) (Pt.bm 15 7) (by kernel_rfl) ?_
  refine Pt.pu 3 (some 14) (Pt.bm 15 15) (by kernel_rfl) ?_
  refine Pt.tk 4 (some 15) (Pt.bm 15 31) rfl rfl (by kernel_rfl) hHeld (Or.inl ⟨by rfl, by rintro w' ⟨s0, s1⟩; go_simp; with_reducible rfl⟩) ?_
  refine Pt.pu 5 (some 16) (Pt.bm 15 63) (by kernel_rfl) ?_
  refine Pt.pu 6 (some 17) (Pt.bm 15 127) (by kernel_rfl) ?_
  refine Pt.pu 7 (some 18) (Pt.bm 15 255) (by kernel_rfl) ?_
  refine Pt.pu 8 (some 19) (Pt.bm 15 511) (by kernel_rfl) ?_
  refine Pt.tk 9 (some 20) (Pt.bm 15 1023) rfl rfl (by kernel_rfl) hHeld (Or.inl ⟨by rfl, by rintro w' ⟨s0, s1⟩; go_simp; with_reducible rfl⟩) ?_
  refine Pt.pu 12 (some 23) (Pt.bm 15 5119) (by kernel_rfl) ?_
  refine one_ (i := 10) (N := some 21) (Pt.bm 15 6143) rfl rfl (by kernel_rfl) (by decide) (fun K hK => ?_)
  refine goes_ Try.func138 (by kernel_rfl) rfl #[.slice A s.forks.length c] (by rfl) rfl rfl (by (try simp only [List.map_toArray, List.map_cons, List.map_nil]); first | done | rfl) ?_
  refine (impl_Fork_138.calls A c s.forks _ _ HR4.out HC.out H1.out).mono ?_
  rintro e w5 ⟨v0, rfl, hR5, hb5⟩
  refine ⟨_, rfl, ?_⟩
  obtain ⟨A5, c5, rfl⟩ := Kd.R_slice hR5
  have HR5 := Aside0.mk hR5
  have HB5 := Aside0.mk hb5
  have BG5 := Aside0.mk (blk_below BG4.out hb5)
  have BX5 := Aside0.mk (blk_below BX4.out hb5)
  clear hR5 hb5
  refine hK.out _ _ ⟨(blk_cell BG5.out 0).trans rfl, (blk_cell BG5.out 1).trans rfl⟩ (fun hHeld => ?_)
  clear hK K
  refine norm_ (a' := ?_) ?_ ?_
  rotate_left
  ·show Act.put _ (some 21) _ = _
   simp only [Act.put, List.setIfInBounds_toArray, List.set_cons_zero, List.set_cons_succ, i64_w, i32_w]
   rfl
  refine Pt.pu 11 (some 22) (Pt.bm 15 8191) (by kernel_rfl) ?_
  refine last_ (i := 13) (N := none) (Pt.bm 15 16383) rfl rfl (by kernel_rfl) (by decide) (fun K hK => ?_)
  have hs0 : w5.cell? ⟨gb, 0, none⟩ = some (.int .i64 0) := (blk_cell BX5.out 0).trans rfl
  have hs1 : w5.cell? ⟨gb, 1, none⟩ = some (.slice none 0 0) := (blk_cell BX5.out 1).trans rfl
  have hfs0 := blk_frozen BX5.out 0
  have hfs1 := blk_frozen BX5.out 1
  refine skip_ (w1 := ?_) (by rfl) rfl ?_ ?_
  rotate_left
  ·go_simp
   rfl
  refine hK.out _ _ ?_
  clear hK K hs0 hs1 hfs0 hfs1
  refine Pt.pu 14 (some 5) (Pt.bm 15 32767) (by kernel_rfl) ?_
  refine done_ (by kernel_rfl) ?_
  try go_wp2
  refine bodyPost_ret (results_ct rfl _ _ gb 48 #[.int .i64 s.vars, .slice A5 l.length c5] (0, 0) _ rfl (blk_put (blk_put BX5.out 0 _ rfl) 1 _ rfl) Try.underlying48 rfl (by kernel_rfl)) rfl ?_
  exact ⟨_, rfl, Kd.R_far (p := ⟨gb, 1, none⟩) (Kd.R_far (p := ⟨gb, 0, none⟩) (Kd.R_types (Kd.R_lower HR5.out HB4.out.size) BX5.out (by decide)) (fun _ hk => hk.2) _) (fun _ hk => hk.2) _ |> fun h_ => Kd.R_mono h_ (fun _ _ => trivial), below_set (below_set (below_step HB4.out HB5.out) (Nat.le_of_eq HGB.out.symm)) (Nat.le_of_eq HGB.out.symm)⟩

/-! ### impl_forking_fork: function 128 -/
def impl_forking_fork.f (s : FS) (v lo hi : Int) : Option (FS × Int) :=
 if lo = hi then some (s, lo) else if okF ⟨v, lo, hi⟩ then
  match s.seen ⟨v, lo, hi⟩ with
  | some n => some (s, n)
  | none => if 2000 ≤ (s.forks.length : Int) then some ({ s with full := true }, 0) else some ({ s with forks := s.forks ++ [⟨v, lo, hi⟩], seen := fun y => if y = ⟨v, lo, hi⟩ then some ((s.forks.length : Int) + 2) else s.seen y }, (s.forks.length : Int) + 2)
 else none
set_option maxHeartbeats 4000000 in
set_option maxRecDepth 100000 in
theorem impl_forking_fork.calls (s s' : FS) (v lo hi r : Int) (ok : Nat → Prop) (g : Nat) (w0 w : World) (hB : Below w0.heap.size w0 w) (hI : IsF w w0.heap.size ok g s) (hf : ∀ k, w.heap.size ≤ k → ok k) (h : impl_forking_fork.f s v lo hi = some (s', r)) :
  Calls Try.prog 128 #[.pointer (some ⟨g, 0, none⟩), .int .i64 v, .int .i64 lo, .int .i64 hi] w fun e w' => e = .returned (.int .i64 r) ∧ IsF w' w0.heap.size ok g s' ∧ Below w0.heap.size w0 w' ∧ Kept w w' ok := by
 have hu25 := Try.underlying48
 have hu71 := Try.underlying56
 have hu113 := Try.underlying146
 have HI := Aside0.mk hI
 have HB := Aside0.mk hB
 have HF := Aside0.mk hf
 unfold impl_forking_fork.f at h
 clear hI hB hf
 by_cases c1 : lo = hi
 ·rw [if_pos c1] at h
  obtain ⟨rfl, rfl⟩ := Prod.mk.inj (Option.some.inj h)
  have c1b : (lo == hi) = true := beq_iff_eq.mpr c1
  clear h c1
  go_enter Try.func128, Try.ntmps128
  go_wp2
  go_ret
  exact ⟨rfl, HI.out, HB.out, Kept.refl _ _⟩
 ·rw [if_neg c1] at h
  have c1b : (lo == hi) = false := beq_eq_false_iff_ne.mpr c1
  clear c1
  by_cases c2 : okF ⟨v, lo, hi⟩
  ·rw [if_pos c2] at h
   have C2 := Aside0.mk c2
   have H := Aside0.mk h
   clear c2 h
   obtain ⟨u, b1, b2, hg, hR, hM1, hM2, hne, k1, k2, k3, k4, k5, k6⟩ := HI.out
   obtain ⟨A, c, rfl⟩ := Kd.R_slice hR
   have BG := Aside0.mk hg
   have HR := Aside0.mk hR
   have M1 := Aside0.mk hM1
   have M2 := Aside0.mk hM2
   have KS := Aside0.mk (And.intro hne (And.intro k1 (And.intro k2 (And.intro k3 (And.intro k4 (And.intro k5 k6))))))
   clear hg hR hM1 hM2 hne k1 k2 k3 k4 k5 k6
   go_enter Try.func128, Try.ntmps128
   go_wp2_with ((with_reducible refine gate_dst (N := 9) rfl ?_); refine box_event ?hg (N := 9) ?hd (cs := #[.int .i64 0, .int .i64 0, .int .i64 0]) (t := 56) ?hr ?_; (case hd => rfl); (case hg => rfl); (case hr => first | (go_simp; done) | (go_simp; rfl)); intro gb hgb w3 hbox hb; have BX0 := Aside0.mk hbox; have HB3 := Aside0.mk hb; have hz0 : w3.cell? ⟨gb, 0, none⟩ = some (.int .i64 0) := (blk_cell BX0.out 0).trans rfl; have hz1 : w3.cell? ⟨gb, 1, none⟩ = some (.int .i64 0) := (blk_cell BX0.out 1).trans rfl; have hz2 : w3.cell? ⟨gb, 2, none⟩ = some (.int .i64 0) := (blk_cell BX0.out 2).trans rfl; have hy0 := blk_frozen BX0.out 0; have hy1 := blk_frozen BX0.out 1; have hy2 := blk_frozen BX0.out 2; have HGB := Aside0.mk hgb; clear hgb hbox hb)
   have n0 : Aside0 (Below w.heap.size w (((w3.setCell ⟨gb, 0, none⟩ (.int .i64 v)).setCell ⟨gb, 1, none⟩ (.int .i64 lo)).setCell ⟨gb, 2, none⟩ (.int .i64 hi))) := ⟨below_set (below_set (below_set HB3.out (Nat.le_of_eq HGB.out.symm)) (Nat.le_of_eq HGB.out.symm)) (Nat.le_of_eq HGB.out.symm)⟩
   have n1 : Aside0 ((((w3.setCell ⟨gb, 0, none⟩ (.int .i64 v)).setCell ⟨gb, 1, none⟩ (.int .i64 lo)).setCell ⟨gb, 2, none⟩ (.int .i64 hi)).heap[gb]? = some (.cells #[.int .i64 v, .int .i64 lo, .int .i64 hi] 56 (0, 0))) := ⟨blk_put (blk_put (blk_put BX0.out 0 _ rfl) 1 _ rfl) 2 _ rfl⟩
   generalize (((w3.setCell ⟨gb, 0, none⟩ (.int .i64 v)).setCell ⟨gb, 1, none⟩ (.int .i64 lo)).setCell ⟨gb, 2, none⟩ (.int .i64 hi)) = w4 at n0 n1 ⊢
   clear hz0 hz1 hz2 hy0 hy1 hy2 BX0 HB3
   have HB4 := n0
   have BX := n1
   have BG4 := Aside0.mk (blk_below BG.out HB4.out)
   have M4 := Aside0.mk (M1.out.below HB4.out)
   clear n0 n1
   refine start_ (n := 11) (S := fun w' => w'.cell? ⟨g, 2, none⟩ = some (.map (some b1)) ∧ w'.cell? ⟨gb, 0, none⟩ = some (.int .i64 v) ∧ w'.cell? ⟨gb, 1, none⟩ = some (.int .i64 lo) ∧ w'.cell? ⟨gb, 2, none⟩ = some (.int .i64 hi) ∧ Mp.Is ekF okF (Value.int .i64) w' b1 s.seen) (ds := []) (Pt.bm 11 0) (by kernel_rfl) rfl rfl ⟨(blk_cell BG4.out 2).trans rfl, (blk_cell BX.out 0).trans rfl, (blk_cell BX.out 1).trans rfl, (blk_cell BX.out 2).trans rfl, M4.out.drew⟩ (fun hHeld => ?_)
   refine Pt.pu 0 (some 21) (Pt.bm 11 1) (by kernel_rfl) ?_
   refine Pt.pu 1 (some 22) (Pt.bm 11 3) (by kernel_rfl) ?_
   refine Pt.pu 2 (some 23) (Pt.bm 11 7) (by kernel_rfl) ?_
   refine Pt.tk 3 (some 24) (Pt.bm 11 15) rfl rfl (by kernel_rfl) hHeld (Or.inl ⟨by rfl, by rintro w' ⟨s0, s1, s2, s3, sM⟩; go_simp; with_reducible rfl⟩) ?_
   refine Pt.tk 4 (some 25) (Pt.bm 11 31) rfl rfl (by kernel_rfl) hHeld (Or.inl ⟨by rfl, by rintro w' ⟨s0, s1, s2, s3, sM⟩; go_simp; with_reducible rfl⟩) ?_
   cases hs : s.seen ⟨v, lo, hi⟩ with
   | some n =>
    have H2 := H.out
    rw [hs] at H2
    obtain ⟨rfl, rfl⟩ := Prod.mk.inj (Option.some.inj H2)
    clear H H2
    refine Pt.tk 5 (some 26) (Pt.bm 11 63) rfl rfl (by kernel_rfl) hHeld (Or.inl ⟨by rfl, by rintro w' ⟨s0, s1, s2, s3, sM⟩; exact Mp.run_some (.tmp 24) (.tmp 25) rfl rfl sM keyF Try.underlying143 zero_int ⟨v, lo, hi⟩ rfl C2.out hs⟩) ?_
    refine Pt.pu 6 (some 20) (Pt.bm 11 127) (by kernel_rfl) ?_
    refine Pt.pu 7 (some 27) (Pt.bm 11 255) (by kernel_rfl) ?_
    refine Pt.pu 8 (some 28) (Pt.bm 11 511) (by kernel_rfl) ?_
    refine Pt.pu 9 (some 10) (Pt.bm 11 1023) (by kernel_rfl) ?_
    refine Pt.pu 10 (some 11) (Pt.bm 11 2047) (by kernel_rfl) ?_
    refine done_ (by kernel_rfl) ?_
    go_wp2
    go_ret
    have HB5 := below_step HB4.out (below_drew (Below.refl _ _))
    exact ⟨rfl, HI.out.below HB5, below_then HB.out HB.out.size HB5, Kept.of_below HB5 _⟩
   | none =>
    have H2 := H.out
    rw [hs] at H2
    clear H
    refine Pt.tk 5 (some 26) (Pt.bm 11 63) rfl rfl (by kernel_rfl) hHeld (Or.inl ⟨by rfl, by rintro w' ⟨s0, s1, s2, s3, sM⟩; exact Mp.run_none (.tmp 24) (.tmp 25) rfl rfl sM keyF Try.underlying143 zero_int ⟨v, lo, hi⟩ rfl C2.out hs⟩) ?_
    refine Pt.pu 6 (some 20) (Pt.bm 11 127) (by kernel_rfl) ?_
    refine Pt.pu 7 (some 27) (Pt.bm 11 255) (by kernel_rfl) ?_
    refine Pt.pu 8 (some 28) (Pt.bm 11 511) (by kernel_rfl) ?_
    refine Pt.pu 9 (some 10) (Pt.bm 11 1023) (by kernel_rfl) ?_
    refine Pt.pu 10 (some 11) (Pt.bm 11 2047) (by kernel_rfl) ?_
    refine done_ (by kernel_rfl) ?_
    clear hHeld
    have hd1 : Below w4.heap.size w4 w4.drew := below_drew (Below.refl _ _)
    have n0 := Aside0.mk (below_step HB4.out hd1)
    have n1 := Aside0.mk (blk_drew BX.out)
    generalize w4.drew = w5 at n0 n1 ⊢
    clear HB4 BX BG4 M4 hd1
    have HB5 := n0
    have BX5 := n1
    clear n0 n1
    have BG5 := Aside0.mk (blk_below BG.out HB5.out)
    have M5 := Aside0.mk (M1.out.below HB5.out)
    have M5b := Aside0.mk (M2.out.below HB5.out)
    have hg1 : w5.cell? ⟨g, 1, none⟩ = some (.slice A s.forks.length c) := (blk_cell BG5.out 1).trans rfl
    have hg3 : w5.cell? ⟨g, 3, none⟩ = some (.bool s.full) := (blk_cell BG5.out 3).trans rfl
    have hf3 := blk_frozen BG5.out 3
    by_cases c3 : 2000 ≤ (s.forks.length : Int)
    ·rw [if_pos c3] at H2
     obtain ⟨rfl, rfl⟩ := Prod.mk.inj (Option.some.inj H2)
     have c3b : decide (2000 ≤ (s.forks.length : Int)) = true := decide_eq_true c3
     clear H2 c3
     go_wp2
     go_ret
     refine ⟨rfl, ?_, ?_, ?_⟩
     ·obtain ⟨hne, k1, k2, k3, k4, k5, k6⟩ := KS.out
      exact ⟨_, b1, b2, blk_put BG5.out 3 _ rfl, Kd.R_set (Kd.R_below HR.out HB5.out) BG5.out (by decide) 3 _, M5.out.far (p := ⟨g, 3, none⟩) (M5.out.ne_blk BG5.out) _, M5b.out.far (p := ⟨g, 3, none⟩) (M5b.out.ne_blk BG5.out) _, hne, k1, k2, k3, k4, k5, k6⟩
     ·exact (below_then HB.out HB.out.size HB5.out).setCell KS.out.2.2.2.2.1 _
     ·exact (Kept.of_below HB5.out ok).setCell (.inl KS.out.2.1) _
    ·rw [if_neg c3] at H2
     have c3b : decide (2000 ≤ (s.forks.length : Int)) = false := decide_eq_false c3
     obtain ⟨rfl, rfl⟩ := Prod.mk.inj (Option.some.inj H2)
     have C3 := Aside0.mk c3
     clear H2 c3
     go_wp2
     clear hg1 hg3 hf3 c3b
     have hne5 : some gb ≠ (Value.slice A s.forks.length c).ownBlock := fun e => by have := Kd.R_lt HR.out gb e.symm; have := HGB.out; omega
     have HNE := Aside0.mk hne5
     have hgg : gb ≠ g := fun e => by have := blk_lt BG.out; have := HGB.out; omega
     have HGG := Aside0.mk hgg
     clear hne5 hgg
     refine start_ (n := 13) (S := fun w' => w'.cell? ⟨g, 1, none⟩ = some (.slice A s.forks.length c) ∧ w'.cell? ⟨gb, 0, none⟩ = some (.int .i64 v) ∧ w'.cell? ⟨gb, 1, none⟩ = some (.int .i64 lo) ∧ w'.cell? ⟨gb, 2, none⟩ = some (.int .i64 hi)) (ds := [12]) (Pt.bm 13 0) (by kernel_rfl) rfl rfl ⟨(blk_cell BG5.out 1).trans rfl, (blk_cell BX5.out 0).trans rfl, (blk_cell BX5.out 1).trans rfl, (blk_cell BX5.out 2).trans rfl⟩ (fun hHeld => ?_)
     have hd1 : Below w5.heap.size w5 w5.drew := below_drew (Below.refl _ _)
     have n0 := Aside0.mk (below_step HB5.out hd1)
     have n1 := Aside0.mk (blk_drew BX5.out)
     generalize w5.drew = w6 at n0 n1 hHeld ⊢
     clear HB5 BX5 BG5 M5 M5b hd1
     have HB6 := n0
     have BX6 := n1
     clear n0 n1
     have BG6 := Aside0.mk (blk_below BG.out HB6.out)
     have M6 := Aside0.mk (M1.out.below HB6.out)
     have M6b := Aside0.mk (M2.out.below HB6.out)
     have HR6 := Aside0.mk (Kd.R_below HR.out HB6.out)
     refine Pt.pu 0 (some 41) (Pt.bm 13 1) (by kernel_rfl) ?_
     refine Pt.pu 1 (some 42) (Pt.bm 13 3) (by kernel_rfl) ?_
     refine Pt.pu 2 (some 43) (Pt.bm 13 7) (by kernel_rfl) ?_
     refine Pt.pu 3 (some 44) (Pt.bm 13 15) (by kernel_rfl) ?_
     refine Pt.pu 4 (some 45) (Pt.bm 13 31) (by kernel_rfl) ?_
     refine Pt.tk 5 (some 46) (Pt.bm 13 63) rfl rfl (by kernel_rfl) hHeld (Or.inl ⟨by rfl, by rintro w' ⟨s0, s1, s2, s3⟩; go_simp; with_reducible rfl⟩) ?_
     refine Pt.tk 6 (some 47) (Pt.bm 13 127) rfl rfl (by kernel_rfl) hHeld (Or.inl ⟨by rfl, by rintro w' ⟨s0, s1, s2, s3⟩; go_simp; with_reducible rfl⟩) ?_
     refine one_ (i := 7) (N := some 48) (Pt.bm 13 255) rfl rfl (by kernel_rfl) (by decide) (fun K hK => ?_)
     refine value_ (w1 := ?_) (v := ?_) (by rfl) rfl ?_ ?_
     rotate_left 2
     ·go_simp
      constructor
      ·rfl
      ·rfl
     refine hK.out _ _ ⟨(blk_cell (blk_alloc BG6.out _) 1).trans rfl, (blk_cell (blk_alloc BX6.out _) 0).trans rfl, (blk_cell (blk_alloc BX6.out _) 1).trans rfl, (blk_cell (blk_alloc BX6.out _) 2).trans rfl⟩ (fun hHeld => ?_)
     clear hK K
     refine norm_ (a' := ?_) ?_ ?_
     rotate_left
     ·show Act.put _ (some 48) _ = _
      simp only [Act.put, List.setIfInBounds_toArray, List.set_cons_zero, List.set_cons_succ, i64_w, i32_w]
      rfl
     refine one_ (i := 8) (N := some 49) (Pt.bm 13 511) rfl rfl (by kernel_rfl) (by decide) (fun K hK => ?_)
     refine Kd.R_append_step k56 (w0 := w0) w0.heap.size (by rfl) (.tmp 46) (.tmp 48) 46 56 (.agg #[.int .i64 0, .int .i64 0, .int .i64 0]) 24 rfl Try.underlying46 info56 rfl (by decide) (by omega) (.slice A s.forks.length c) s.forks (⟨v, lo, hi⟩ : S56) [.int .i64 v, .int .i64 lo, .int .i64 hi] ok (fun _ => False) rfl rfl (k56_mkM _ _ _ _) (fun _ hk => hk.elim) (fun k hk => HF.out k (Nat.le_trans HB6.out.size hk)) HR6.out (below_then HB.out HB.out.size HB6.out) (Nat.le_trans HB.out.size HB6.out.size) (by have := C3.out; omega) ?_
     intro v1 w7 ho7 hb7 hg7 _
     obtain ⟨A1, cc1, rfl⟩ := Kd.R_slice ho7
     obtain ⟨y, hy⟩ : ∃ y : List S56, y = s.forks ++ [⟨v, lo, hi⟩] := ⟨_, rfl⟩
     have hyl : y.length = s.forks.length + 1 := by rw [hy]; simp
     rw [← hy] at ho7 ⊢
     have BG7 := Aside0.mk (blk_grown BG6.out hg7 (Kd.R_ne HR6.out BG6.out (by decide)))
     have BX7 := Aside0.mk (blk_grown BX6.out hg7 HNE.out)
     have M7 := Aside0.mk (M6.out.grown hg7 (M6.out.ne_row HR6.out))
     have M7b := Aside0.mk (M6b.out.grown hg7 (M6b.out.ne_row HR6.out))
     have HO7 := Aside0.mk ho7
     have HB7 := Aside0.mk hb7
     have HK7 := Aside0.mk (Kept.of_grown hg7 (Kept.of_below HB6.out ok) (fun k hk => .inl (HR.out.1 k hk)))
     have HY := Aside0.mk hy
     have HYL := Aside0.mk hyl
     clear ho7 hb7 hg7 BG6 BX6 M6 M6b hy hyl HR6 HB6
     refine hK.out _ _ ⟨(blk_cell BG7.out 1).trans rfl, (blk_cell BX7.out 0).trans rfl, (blk_cell BX7.out 1).trans rfl, (blk_cell BX7.out 2).trans rfl⟩ (fun hHeld => ?_)
     clear hK K
     refine norm_ (a' := ?_) ?_ ?_
     rotate_left
     ·show Act.put _ (some 49) _ = _
      simp only [Act.put, List.setIfInBounds_toArray, List.set_cons_zero, List.set_cons_succ, i64_w, i32_w]
      rfl
     refine Pt.pu 9 (some 50) (Pt.bm 13 1023) (by kernel_rfl) ?_
     refine Pt.pu 10 (some 51) (Pt.bm 13 2047) (by kernel_rfl) ?_
     refine Pt.pu 11 (some 52) (Pt.bm 13 4095) (by kernel_rfl) ?_
     refine last_ (i := 12) (N := none) (Pt.bm 13 8191) rfl rfl (by kernel_rfl) (by decide) (fun K hK => ?_)
     have hs1 : w7.cell? ⟨g, 1, none⟩ = some (.slice A s.forks.length c) := (blk_cell BG7.out 1).trans rfl
     have hfs1 := blk_frozen BG7.out 1
     refine skip_ (w1 := ?_) (by rfl) rfl ?_ ?_
     rotate_left
     ·go_simp
      rfl
     refine hK.out _ _ ?_
     clear hK K hs1 hfs1
     refine done_ (by kernel_rfl) ?_
     have n0 : Aside0 ((w7.setCell ⟨g, 1, none⟩ (.slice A1 y.length cc1)).heap[g]? = some (.cells #[.int .i64 s.vars, .slice A1 y.length cc1, .map (some b1), .bool s.full, .map (some b2)] 146 (0, 0))) := ⟨blk_put BG7.out 1 _ rfl⟩
     have n1 : Aside0 ((w7.setCell ⟨g, 1, none⟩ (.slice A1 y.length cc1)).heap[gb]? = some (.cells #[.int .i64 v, .int .i64 lo, .int .i64 hi] 56 (0, 0))) := ⟨blk_far BX7.out HGG.out _⟩
     have n2 := Aside0.mk (M7.out.far (p := ⟨g, 1, none⟩) (M7.out.ne_blk BG7.out) (.slice A1 y.length cc1))
     have n3 := Aside0.mk (M7b.out.far (p := ⟨g, 1, none⟩) (M7b.out.ne_blk BG7.out) (.slice A1 y.length cc1))
     have n4 := Aside0.mk (Kd.R_set HO7.out BG7.out (by decide) 1 (.slice A1 y.length cc1))
     have n5 := Aside0.mk (HB7.out.setCell (p := ⟨g, 1, none⟩) KS.out.2.2.2.2.1 (.slice A1 y.length cc1))
     have n6 := Aside0.mk (HK7.out.setCell (p := ⟨g, 1, none⟩) (.inl KS.out.2.1) (.slice A1 y.length cc1))
     generalize (w7.setCell ⟨g, 1, none⟩ (.slice A1 y.length cc1)) = w8 at n0 n1 n2 n3 n4 n5 n6 ⊢
     clear BG7 BX7 M7 M7b HO7 HB7 HK7
     have BG8 := Aside0.mk (blk_drew n0.out)
     have BX8 := Aside0.mk (blk_drew n1.out)
     have M8 := Aside0.mk n2.out.drew
     have M8b := Aside0.mk n3.out.drew
     have HO8 := Aside0.mk (Kd.R_drew n4.out)
     have HB8 := Aside0.mk (below_drew n5.out)
     have HK8 := Aside0.mk n6.out.drew
     have hlw : wrap64 ((y.length : Int) + 1) = (s.forks.length : Int) + 2 := by have := C3.out; have := HYL.out; unfold wrap64; omega
     have hlw' : (IntKind.i64.wrap ((y.length : Int) + 1)) = (s.forks.length : Int) + 2 := (i64_w _).trans hlw
     clear n0 n1 n2 n3 n4 n5 n6
     try go_wp2
     refine start_ (n := 13) (S := fun w' => w'.cell? ⟨g, 1, none⟩ = some (.slice A1 y.length cc1) ∧ w'.cell? ⟨g, 2, none⟩ = some (.map (some b1)) ∧ w'.cell? ⟨gb, 0, none⟩ = some (.int .i64 v) ∧ w'.cell? ⟨gb, 1, none⟩ = some (.int .i64 lo) ∧ w'.cell? ⟨gb, 2, none⟩ = some (.int .i64 hi)) (ds := [12]) (Pt.bm 13 0) (by kernel_rfl) rfl rfl ⟨(blk_cell BG8.out 1).trans rfl, (blk_cell BG8.out 2).trans rfl, (blk_cell BX8.out 0).trans rfl, (blk_cell BX8.out 1).trans rfl, (blk_cell BX8.out 2).trans rfl⟩ (fun hHeld => ?_)
     generalize w8.drew = w9 at BG8 BX8 M8 M8b HO8 HB8 HK8 hHeld ⊢
     refine Pt.pu 0 (some 53) (Pt.bm 13 1) (by kernel_rfl) ?_
     refine Pt.pu 1 (some 54) (Pt.bm 13 3) (by kernel_rfl) ?_
     refine Pt.pu 2 (some 55) (Pt.bm 13 7) (by kernel_rfl) ?_
     refine Pt.tk 3 (some 56) (Pt.bm 13 15) rfl rfl (by kernel_rfl) hHeld (Or.inl ⟨by rfl, by rintro w' ⟨s0, s1, s2, s3, s4⟩; go_simp; with_reducible rfl⟩) ?_
     refine Pt.tk 4 (some 57) (Pt.bm 13 31) rfl rfl (by kernel_rfl) hHeld (Or.inl ⟨by rfl, by rintro w' ⟨s0, s1, s2, s3, s4⟩; go_simp; with_reducible rfl⟩) ?_
     refine Pt.pu 5 (some 58) (Pt.bm 13 63) (by kernel_rfl) ?_
     refine Pt.pu 6 (some 59) (Pt.bm 13 127) (by kernel_rfl) ?_
     refine Pt.pu 7 (some 60) (Pt.bm 13 255) (by kernel_rfl) ?_
     refine Pt.pu 8 (some 61) (Pt.bm 13 511) (by kernel_rfl) ?_
     refine Pt.tk 9 (some 62) (Pt.bm 13 1023) rfl rfl (by kernel_rfl) hHeld (Or.inl ⟨by rfl, by rintro w' ⟨s0, s1, s2, s3, s4⟩; go_simp; with_reducible rfl⟩) ?_
     refine Pt.pu 10 (some 63) (Pt.bm 13 2047) (by kernel_rfl) ?_
     refine Pt.pu 11 (some 64) (Pt.bm 13 4095) (by kernel_rfl) ?_
     refine last_ (i := 12) (N := none) (Pt.bm 13 8191) rfl rfl (by kernel_rfl) (by decide) (fun K hK => ?_)
     refine Mp.store_step (by rfl) rfl (.tmp 56) (.tmp 57) (.tmp 64) rfl rfl M8.out keyF Try.underlying143 ⟨v, lo, hi⟩ rfl C2.out ((s.forks.length : Int) + 2) ?hv ?_
     case hv =>
      show Value.int .i64 _ = _
      first | rw [hlw] | rw [hlw'] | simp [hlw, hlw']
     intro w10 hM10 hg10 hz10
     refine hK.out _ _ ?_
     clear hK K hHeld
     refine done_ (by kernel_rfl) ?_
     have BG10 := Aside0.mk (blk_grown BG8.out hg10 (by simpa using (M8.out.ne_blk BG8.out).symm))
     have BX10 := Aside0.mk (blk_grown BX8.out hg10 (by simpa using (M8.out.ne_blk BX8.out).symm))
     have M10 := Aside0.mk hM10
     have M10b := Aside0.mk (M8b.out.grown hg10 (by simpa using KS.out.1.symm))
     have HO10 := Aside0.mk (Kd.R_map HO8.out M8.out hg10)
     have HB10 := Aside0.mk (pw_below_grown HB8.out (some b1) (Nat.le_trans (by exact HB.out.size) (by exact HK8.out.1)) hg10 (fun k hk => by cases hk; exact KS.out.2.2.2.2.2.1))
     have HK10 := Aside0.mk (Kept.of_grown hg10 HK8.out (fun k hk => .inl (by cases hk; exact KS.out.2.2.1)))
     clear hM10 hg10 hz10 BG8 BX8 M8 M8b HO8 HB8 HK8
     try go_wp2
     refine start_ (n := 7) (S := fun w' => w'.cell? ⟨g, 2, none⟩ = some (.map (some b1)) ∧ w'.cell? ⟨gb, 0, none⟩ = some (.int .i64 v) ∧ w'.cell? ⟨gb, 1, none⟩ = some (.int .i64 lo) ∧ w'.cell? ⟨gb, 2, none⟩ = some (.int .i64 hi) ∧ Mp.Is ekF okF (Value.int .i64) w' b1 (fun y' => if y' = ⟨v, lo, hi⟩ then some ((s.forks.length : Int) + 2) else s.seen y')) (ds := []) (Pt.bm 7 0) (by kernel_rfl) rfl rfl ⟨(blk_cell BG10.out 2).trans rfl, (blk_cell BX10.out 0).trans rfl, (blk_cell BX10.out 1).trans rfl, (blk_cell BX10.out 2).trans rfl, M10.out.drew⟩ (fun hHeld => ?_)
     refine Pt.pu 0 (some 65) (Pt.bm 7 1) (by kernel_rfl) ?_
     refine Pt.pu 1 (some 66) (Pt.bm 7 3) (by kernel_rfl) ?_
     refine Pt.pu 2 (some 67) (Pt.bm 7 7) (by kernel_rfl) ?_
     refine Pt.tk 3 (some 68) (Pt.bm 7 15) rfl rfl (by kernel_rfl) hHeld (Or.inl ⟨by rfl, by rintro w' ⟨s0, s1, s2, s3, sM⟩; go_simp; with_reducible rfl⟩) ?_
     refine Pt.tk 4 (some 69) (Pt.bm 7 31) rfl rfl (by kernel_rfl) hHeld (Or.inl ⟨by rfl, by rintro w' ⟨s0, s1, s2, s3, sM⟩; go_simp; with_reducible rfl⟩) ?_
     refine Pt.tk 5 (some 70) (Pt.bm 7 63) rfl rfl (by kernel_rfl) hHeld (Or.inl ⟨by rfl, by rintro w' ⟨s0, s1, s2, s3, sM⟩; exact Mp.run_at (.tmp 68) (.tmp 69) rfl rfl sM keyF Try.underlying143 zero_int ⟨v, lo, hi⟩ rfl C2.out (if_pos rfl)⟩) ?_
     refine Pt.pu 6 (some 8) (Pt.bm 7 127) (by kernel_rfl) ?_
     refine done_ (by kernel_rfl) ?_
     go_wp2
     go_ret
     obtain ⟨hne, k1, k2, k3, k4, k5, k6⟩ := KS.out
     rw [← HY.out]
     exact ⟨rfl, ⟨_, b1, b2, blk_drew BG10.out, Kd.R_drew HO10.out, M10.out.drew, M10b.out.drew, hne, k1, k2, k3, k4, k5, k6⟩, below_drew HB10.out, HK10.out.drew⟩
  ·rw [if_neg c2] at h
   cases h

/-! ### impl_bit: function 134 -/
def impl_bit.f (a0 : Bool) : Option (Int) := if a0 = true then (some 1) else (some 0)
set_option maxHeartbeats 8000000 in
set_option maxRecDepth 100000 in
theorem impl_bit.calls (a0 : Bool) (r : Int) (w : World) (h : impl_bit.f a0 = some r) :
  Calls Try.prog 134 #[.bool a0] w fun e w' => e = .returned (.int .i64 r) ∧ Drawn0 w w' := by
 have H : (if a0 = true then (some 1) else (some 0)) = some r := h
 clear h
 by_cases c2 : a0 = true
 ·subst c2
  have H1 : (some 1) = some r := by rw [if_pos rfl] at H; exact H
  clear H
  have H := H1
  clear H1
  obtain rfl := Option.some.inj H
  go_enter Try.func134, Try.ntmps134
  go_wp2
  go_ret
  exact ⟨by first | rfl | (simp; done) | (simp [*]; done), by repeat (first | exact Drawn0.refl _ | apply Drawn0.step)⟩
 ·replace c2 := Bool.eq_false_iff.mpr c2
  subst c2
  have H1 : (some 0) = some r := by rw [if_neg (show ¬ (false = true) by decide)] at H; exact H
  clear H
  have H := H1
  clear H1
  obtain rfl := Option.some.inj H
  go_enter Try.func134, Try.ntmps134
  go_wp2
  go_ret
  exact ⟨by first | rfl | (simp; done) | (simp [*]; done), by repeat (first | exact Drawn0.refl _ | apply Drawn0.step)⟩

/-! ### slices_Clip_int_int: function 139 -/
set_option maxHeartbeats 800000 in
theorem slices_Clip_int_int.calls (A : Option Addr) (n c : Nat) (w : World) (hc : n ≤ c) :
  Calls Try.prog 139 #[.slice A n c] w fun e w' => e = .returned (.slice A n n) ∧ w' = w := by
 have hu := Try.underlying38
 obtain ⟨i0q, hi0q, _, hszq, _⟩ := info_parts info3
 have hcut := Cl.cut_clip (P := Try.prog) 38 3 .i64 .i64 Try.underlying38 hi0q A n c hc
 go_enter Try.func139, Try.ntmps139
 go_wp2
 go_ret
 exact ⟨rfl, rfl⟩

end Go.Proofs.Ytpcckoljocpchaa.QFnReorderBack
