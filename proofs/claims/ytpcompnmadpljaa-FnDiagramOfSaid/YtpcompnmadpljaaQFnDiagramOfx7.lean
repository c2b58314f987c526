-- Written by a program of this session (mk.py). Lean checks it.
import Derived.Test.YtpcompnmadpljaaQFnDiagramOfx0
import Derived.Test.YtpcompnmadpljaaQFnDiagramOfx1
import Derived.Test.YtpcompnmadpljaaQFnDiagramOfx2
import Derived.Test.YtpcompnmadpljaaQFnDiagramOfx5
import Derived.Test.YtpcompnmadpljaaQFnDiagramOfx6
namespace Go.Proofs.Ytpcompnmadpljaa.QFnDiagramOf
open Go.RowKit Go.Proofs.YtpcompnmadpljaaW.PrintWords Go.Proofs.YtpcompnmadpljaaW.PrintLast Go.Proofs.YtpcompnmadpljaaW.PrintMore
attribute [local go_sem] max2_int min2_int max_two min_two max_three min_three max_four min_four   -- for this text's walks alone
set_option linter.unusedVariables false
set_option linter.unusedSimpArgs false

/-! ### impl_DiagramOf: function 31 -/
def impl_DiagramOf.is (k : Nat) (a0 : Int) (l : List S121) (edge : Int) (bits : List Int) : Option Bool := (impl_Circuit_values.f k a0 l bits).bind fun vs => (impl_edgeOf.f vs edge).bind fun r => some (r == 1)
theorem impl_DiagramOf.is_le (k : Nat) (a0 : Int) (l : List S121) (edge : Int) (bits : List Int) : LeO (impl_DiagramOf.is k a0 l edge bits) (impl_DiagramOf.is (k + 1) a0 l edge bits) := LeO.bind (impl_Circuit_values.mono _ _ _ k) (fun _ => LeO.refl _)
def impl_DiagramOf.f (k : Nat) (a0_0 : Int) (l0_1 : List S121) (a1 : Int) : Option (Int × List S71 × Int) := (impl_CircuitValid.f k a0_0 l0_1).bind fun t0 => if t0 = false then some (0, [], -1) else (impl_Circuit_isEdge.f a0_0 l0_1 a1).bind fun t1 => if t1 = false then some (0, [], -1) else
 (impl_forkingOf.f a0_0 []).bind fun s => (impl_forking_made.f k (impl_DiagramOf.is k a0_0 l0_1 a1) s []).bind fun p => impl_forking_done.f p.1 p.2
theorem impl_DiagramOf.mono : ∀ a0_0 l0_1 a1 k, LeO (impl_DiagramOf.f k a0_0 l0_1 a1) (impl_DiagramOf.f (k + 1) a0_0 l0_1 a1) := fun a0_0 l0_1 a1 k => LeO.bind (impl_CircuitValid.mono _ _ k) (fun _ => LeO.ite (LeO.refl _) (LeO.bind (LeO.refl _) (fun _ => LeO.ite (LeO.refl _) (LeO.bind (LeO.refl _) (fun _ => LeO.bind (impl_forking_made.le (impl_DiagramOf.is_le k _ _ _) k _ _) (fun _ => LeO.refl _))))))
def impl_DiagramOf.T1 : Bool × List (List Nat × List Nat) := (true, [([], []), ([], []), ([0, 1], [0, 1]), ([], []), ([2, 3, 2], [2, 3]), ([4], [4]), ([5, 4, 0, 1, 2, 3, 4, 5], [5])])
def impl_DiagramOf.B1 : List Nat := [0, 0, 3, 0, 15, 31, 63]
theorem impl_DiagramOf.tab1 : rtab .any (opsOf Try.f78 1) = impl_DiagramOf.T1 := by kernel_rfl
theorem impl_DiagramOf.bits1 : waitsOk impl_DiagramOf.T1.2 impl_DiagramOf.B1 = true := by kernel_rfl
set_option maxHeartbeats 8000000 in
set_option maxRecDepth 100000 in
theorem impl_DiagramOf.is_calls (k : Nat) (a0 : Int) (A0 : Option Addr) (c0 : Nat) (l : List S121) (edge : Int) (gc ge : Nat) (bs : List Int) (b : Bool) (A : Option Addr) (c : Nat) (w : World) (hr : Kd.C k121 w A0 l.length l) (hc : l.length ≤ c0) (hgc : w.heap[gc]? = some (.cells #[.int .i64 a0, .slice A0 l.length c0] 45 (0, 0))) (hge : w.heap[ge]? = some (.cells #[.int .i64 edge] 3 (0, 0)))
  (hb : Kd.C (Kd.int .i64) w A bs.length bs) (hbc : bs.length ≤ c) (h : impl_DiagramOf.is k a0 l edge bs = some b) :
  Calls Try.prog 78 (#[.slice A bs.length c] ++ #[.pointer (some ⟨gc, 0, none⟩), .pointer (some ⟨ge, 0, none⟩)]) w fun e w' => e = .returned (.bool b) ∧ Below w.heap.size w w' := by
 show Calls Try.prog 78 #[.slice A bs.length c, .pointer (some ⟨gc, 0, none⟩), .pointer (some ⟨ge, 0, none⟩)] w _
 have hu45 := Try.underlying45
 obtain ⟨vs, hvs, h2⟩ := Option.bind_eq_some_iff.mp h
 obtain ⟨r, hrr, h3⟩ := Option.bind_eq_some_iff.mp h2
 obtain rfl := Option.some.inj h3
 have HR := Aside0.mk hr
 have HC := Aside0.mk hc
 have GC := Aside0.mk hgc
 have GE := Aside0.mk hge
 have HBS := Aside0.mk hb
 have HBC := Aside0.mk hbc
 have VS := Aside0.mk hvs
 have RR := Aside0.mk hrr
 clear hr hc hgc hge hb hbc h hvs h2 hrr h3
 go_enter Try.func78, Try.ntmps78
 go_upto_region 1 with fail
 refine start_ (n := 7) (S := fun w' => True) (ds := []) (Pt.bm 7 0) (by kernel_rfl) rfl rfl trivial (fun hHeld => ?_)
 refine with_tabW impl_DiagramOf.tab1 impl_DiagramOf.bits1 (fun HT_ HW_ => ?_)
 have n0_ := Aside0.mk (Kd.C_drew HR.out)
 have n1_ := Aside0.mk (blk_drew GC.out)
 have n2_ := Aside0.mk (blk_drew GE.out)
 have n3_ := Aside0.mk (Kd.C_drew HBS.out)
 have n4_ := Aside0.mk (below_drew (Below.refl w.heap.size w))
 clear hHeld
 generalize w.drew = wS at n0_ n1_ n2_ n3_ n4_ ⊢
 refine Pt.pu 1 (some 6) (Pt.bm 7 2) (by kernel_rfl) ?_
 obtain ⟨q, hq⟩ : ∃ q, (r == 1) = q := ⟨_, rfl⟩
 have HQ := Aside0.mk hq
 clear hq
 refine inv_at [0, 2, 3, 4, 5, 6] (fun a0_ b_ a' w' => ∃ (m7 : Value), a' = putSel a0_ b_ [(0, 5, .agg #[.int .i64 a0, .slice A0 l.length c0]), (2, 7, m7), (3, 8, .int .i64 edge), (4, 9, .int .i64 r), (5, 10, .bool q), (6, 4, .bool q)] ∧ Below w.heap.size w w' ∧ (b_ 2 = true → Kd.R (Kd.int .i64) 3 w' w.heap.size (fun _ => True) m7 vs)) HT_.out HW_.out (by kernel_rfl) (by kernel_rfl) ?_ ?_ ?_
 ·exact ⟨.bool false, by simp only [putSel, Bool.false_eq_true, if_false], n4_.out, fun h_ => absurd h_ (by decide)⟩
 ·clear n0_ n1_ n2_ n3_ n4_
  refine steps_cons ?_ ?_
  ·rintro b_ a' w' ⟨m7, ha, Q_B, Q_V⟩ hb_ hon hoff
   refine ⟨_, rfl, fun K hK => ?_⟩
   have e1 : a'.tmps[1]? = some (.pointer (some ⟨gc, 0, none⟩)) := by rw [ha]; exact (putSel_off rfl).trans rfl
   replace ha := Aside0.mk ha
   have GC1 := blk_below GC.out Q_B
   have hc0_ : w'.cell? ⟨gc, 0, none⟩ = some (.int .i64 a0) := (blk_cell GC1 0).trans rfl
   have hc1_ : w'.cell? ⟨gc, 1, none⟩ = some (.slice A0 l.length c0) := (blk_cell GC1 1).trans rfl
   refine value_ (w1 := w') (v := .agg #[.int .i64 a0, .slice A0 l.length c0]) (by rfl) rfl ?_ ?_
   ·go_simp
    (try simp only [i64_w])
    try rfl
   exact hK.out _ _ ⟨m7, (by rw [ha.out]; exact putSel_upk 0 hb_ rfl rfl rfl), Q_B, Q_V⟩
  refine steps_cons ?_ ?_
  ·rintro b_ a' w' ⟨m7, ha, Q_B, Q_V⟩ hb_ hon hoff
   refine ⟨_, rfl, fun K hK => ?_⟩
   have e5 : a'.tmps[5]? = some (.agg #[.int .i64 a0, .slice A0 l.length c0]) := by rw [ha]; exact putSel_on (e := (0, 5, .agg #[.int .i64 a0, .slice A0 l.length c0])) 0 rfl rfl (hon 0 (by kernel_rfl)) rfl
   have e6 : a'.tmps[6]? = some (.slice A bs.length c) := by rw [ha]; exact (putSel_off rfl).trans rfl
   replace ha := Aside0.mk ha
   refine goes_ Try.func80 (by kernel_rfl) rfl #[.agg #[.int .i64 a0, .slice A0 l.length c0], .slice A bs.length c] (by rfl) rfl rfl (by first | (simp only [List.map_toArray, List.map_cons, List.map_nil, Act.eval, Array.getD_eq_getD_getElem?, Option.getD_some, e5, e6]; done) | (simp only [List.map_toArray, List.map_cons, List.map_nil, Act.eval, Array.getD_eq_getD_getElem?, Option.getD_some, e5, e6]; rfl)) ?_
   with_reducible refine (impl_Circuit_values.calls k a0 A0 c0 l A c bs vs _ (Kd.C_below HR.out Q_B) HC.out (Kd.C_below HBS.out Q_B) HBC.out VS.out).mono ?_
   rintro e w9 ⟨v0, rfl, hR_, hb⟩
   exact ⟨_, rfl, hK.out _ _ ⟨v0, (by rw [ha.out]; exact putSel_upk 1 hb_ rfl rfl rfl), below_step Q_B hb, fun _ => Kd.R_lower hR_ Q_B.size⟩⟩
  refine steps_cons ?_ ?_
  ·rintro b_ a' w' ⟨m7, ha, Q_B, Q_V⟩ hb_ hon hoff
   refine ⟨_, rfl, fun K hK => ?_⟩
   have e2 : a'.tmps[2]? = some (.pointer (some ⟨ge, 0, none⟩)) := by rw [ha]; exact (putSel_off rfl).trans rfl
   replace ha := Aside0.mk ha
   have GE1 := blk_below GE.out Q_B
   have hc0_ : w'.cell? ⟨ge, 0, none⟩ = some (.int .i64 edge) := (blk_cell GE1 0).trans rfl
   refine value_ (w1 := w') (v := .int .i64 edge) (by rfl) rfl ?_ ?_
   ·go_simp
    (try simp only [i64_w])
    try rfl
   exact hK.out _ _ ⟨m7, (by rw [ha.out]; exact putSel_upk 2 hb_ rfl rfl rfl), Q_B, Q_V⟩
  refine steps_cons ?_ ?_
  ·rintro b_ a' w' ⟨m7, ha, Q_B, Q_V⟩ hb_ hon hoff
   refine ⟨_, rfl, fun K hK => ?_⟩
   have V_ := Q_V (hon 2 (by kernel_rfl))
   obtain ⟨A7, c7, rfl⟩ := Kd.R_slice V_
   have e7 : a'.tmps[7]? = some (.slice A7 vs.length c7) := by rw [ha]; exact putSel_on (e := (2, 7, .slice A7 vs.length c7)) 1 rfl rfl (hon 2 (by kernel_rfl)) rfl
   have e8 : a'.tmps[8]? = some (.int .i64 edge) := by rw [ha]; exact putSel_on (e := (3, 8, .int .i64 edge)) 2 rfl rfl (hon 3 (by kernel_rfl)) rfl
   replace ha := Aside0.mk ha
   refine goes_ Try.func79 (by kernel_rfl) rfl #[.slice A7 vs.length c7, .int .i64 edge] (by rfl) rfl rfl (by first | (simp only [List.map_toArray, List.map_cons, List.map_nil, Act.eval, Array.getD_eq_getD_getElem?, Option.getD_some, e7, e8]; done) | (simp only [List.map_toArray, List.map_cons, List.map_nil, Act.eval, Array.getD_eq_getD_getElem?, Option.getD_some, e7, e8]; rfl)) ?_
   with_reducible refine (impl_edgeOf.calls A7 c7 vs edge r _ (Kd.R_reads' V_).2.2 (Kd.R_reads' V_).2.1 RR.out).mono ?_
   rintro e w9 ⟨rfl, hd⟩
   have hb := hd.below
   exact ⟨_, rfl, hK.out _ _ ⟨.slice A7 vs.length c7, (by rw [ha.out]; exact putSel_upk 3 hb_ rfl rfl rfl), below_step Q_B hb, fun h_ => Kd.R_below (Q_V h_) hb⟩⟩
  refine steps_cons ?_ ?_
  ·rintro b_ a' w' ⟨m7, ha, Q_B, Q_V⟩ hb_ hon hoff
   refine ⟨_, rfl, fun K hK => ?_⟩
   have e9 : a'.tmps[9]? = some (.int .i64 r) := by rw [ha]; exact putSel_on (e := (4, 9, .int .i64 r)) 3 rfl rfl (hon 4 (by kernel_rfl)) rfl
   replace ha := Aside0.mk ha
   have HQ_ := HQ.out
   refine value_ (w1 := w') (v := .bool q) (by rfl) rfl ?_ ?_
   ·go_simp
    (try rw [HQ_])
    try rfl
   exact hK.out _ _ ⟨m7, (by rw [ha.out]; exact putSel_upk 4 hb_ rfl rfl rfl), Q_B, Q_V⟩
  refine steps_cons ?_ ?_
  ·rintro b_ a' w' ⟨m7, ha, Q_B, Q_V⟩ hb_ hon hoff
   refine ⟨_, rfl, fun K hK => ?_⟩
   have e10 : a'.tmps[10]? = some (.bool q) := by rw [ha]; exact putSel_on (e := (5, 10, .bool q)) 4 rfl rfl (hon 5 (by kernel_rfl)) rfl
   replace ha := Aside0.mk ha
   refine value_ (w1 := w') (v := .bool q) (by rfl) rfl ?_ ?_
   ·go_simp
    (try simp only [i64_w])
    try rfl
   exact hK.out _ _ ⟨m7, (by rw [ha.out]; exact putSel_upk 5 hb_ rfl rfl rfl), Q_B, Q_V⟩
  exact steps_nil
 rintro b_ a' w5 hall ⟨m7, ha, Q_B, Q_V⟩
 have hb0_ := hall 0 (by kernel_rfl)
 have hb2_ := hall 2 (by kernel_rfl)
 have hb3_ := hall 3 (by kernel_rfl)
 have hb4_ := hall 4 (by kernel_rfl)
 have hb5_ := hall 5 (by kernel_rfl)
 have hb6_ := hall 6 (by kernel_rfl)
 subst ha
 simp only [putSel, hb0_, hb2_, hb3_, hb4_, hb5_, hb6_, if_true, Act.put, List.setIfInBounds_toArray, List.set_cons_zero, List.set_cons_succ]
 have HE := Aside0.mk Q_B
 clear hall hb0_ hb2_ hb3_ hb4_ hb5_ hb6_ Q_B Q_V n0_ n1_ n2_ n3_ n4_
 try go_wp2
 go_ret
 exact ⟨by rw [HQ.out]; rfl, HE.out⟩
set_option maxHeartbeats 8000000 in
set_option maxRecDepth 100000 in
theorem impl_DiagramOf.calls (k : Nat) (a0_0 : Int) (A0_1 : Option Addr) (c0_1 : Nat) (l0_1 : List S121) (a1 : Int) (r1 : Int) (r2 : List S71) (r3 : Int) (w : World) (hr : Kd.C k121 w A0_1 l0_1.length l0_1) (hc : l0_1.length ≤ c0_1) (h : impl_DiagramOf.f k a0_0 l0_1 a1 = some (r1, r2, r3)) :
  Calls Try.prog 31 #[.agg #[.int .i64 a0_0, .slice A0_1 l0_1.length c0_1], .int .i64 a1] w fun e w' => ∃ v1_ : Value, e = .returned (.tuple #[.agg #[.int .i64 r1, v1_], .int .i64 r3]) ∧ Kd.R k71 71 w' w.heap.size (fun _ => True) v1_ r2 ∧ Below w.heap.size w w' := by
 have eg : ∀ args w, (callFunc 78 args).run Try.prog w = .ok (.enter 78 args) w := enters_of Try.func78 (by kernel_rfl) rfl
 have hu25 := Try.underlying25
 have hu45 := Try.underlying45
 have HR := Aside0.mk hr
 have HC := Aside0.mk hc
 unfold impl_DiagramOf.f at h
 clear hr hc
 obtain ⟨t0, h0, h_⟩ := Option.bind_eq_some_iff.mp h
 clear h
 have h := h_
 have T0 := Aside0.mk h0
 clear h0 h_
 cases t0 with
 | false =>
  rw [if_pos rfl] at h
  simp only [Option.some.injEq, Prod.mk.injEq] at h
  obtain ⟨rfl, rfl, rfl⟩ := h
  go_enter Try.func31, Try.ntmps31
  go_wp2_with (first | ((with_reducible refine gate_dst (N := 2) rfl ?_); refine box_event ?hg (N := 2) ?hd (cs := #[.int .i64 a0_0, .slice A0_1 l0_1.length c0_1]) (t := 45) ?hr ?_; (case hd => rfl); (case hg => rfl); (case hr => first | (go_simp; done) | (go_simp; rfl)); intro gc hg_ w1 hbox hb; have HB1 := Aside0.mk (hb); have BC1 := Aside0.mk hbox; clear hg_ hbox hb) | ((with_reducible refine gate_dst (N := 3) rfl ?_); refine box_event ?hg (N := 3) ?hd (cs := #[.int .i64 a1]) (t := 3) ?hr ?_; (case hd => rfl); (case hg => rfl); (case hr => first | (go_simp; done) | (go_simp; rfl)); intro ge hg_ w2 hbox hb; have HB2 := Aside0.mk (below_step HB1.out hb); have BE2 := Aside0.mk hbox; have BC2 := Aside0.mk (blk_below BC1.out hb); clear hg_ hbox hb) | ((with_reducible refine gate_dst (N := 4) rfl ?_); refine box_event ?hg (N := 4) ?hd (cs := #[.int .i64 0, .slice none 0 0]) (t := 25) ?hr ?_; (case hd => rfl); (case hg => rfl); (case hr => first | (go_simp; done) | (go_simp; rfl)); intro gr hg_ w3 hbox hb; have HB3 := Aside0.mk (below_step HB2.out hb); have GR := Aside0.mk (show w.heap.size ≤ gr by rw [hg_]; exact HB2.out.size); have BR3 := Aside0.mk hbox; have BE3 := Aside0.mk (blk_below BE2.out hb); have BC3 := Aside0.mk (blk_below BC2.out hb); have d30 : w3.cell? ⟨gc, 0, none⟩ = some (.int .i64 a0_0) := (blk_cell BC3.out 0).trans rfl; have d31 : w3.cell? ⟨gc, 1, none⟩ = some (.slice A0_1 l0_1.length c0_1) := (blk_cell BC3.out 1).trans rfl; have x30 : w3.cell? ⟨ge, 0, none⟩ = some (.int .i64 a1) := (blk_cell BE3.out 0).trans rfl; clear hg_ hbox hb) | (go_at_call 75; (with_reducible refine (impl_CircuitValid.calls k a0_0 A0_1 c0_1 l0_1 false _ (Kd.C_below HR.out HB3.out) HC.out T0.out).mono ?_); rintro e w4 ⟨rfl, hb⟩; have HB4 := Aside0.mk (below_step HB3.out hb); have BC4 := Aside0.mk (blk_below BC3.out hb); have BE4 := Aside0.mk (blk_below BE3.out hb); have BR4 := Aside0.mk (blk_below BR3.out hb); have d40 : w4.cell? ⟨gc, 0, none⟩ = some (.int .i64 a0_0) := (blk_cell BC4.out 0).trans rfl; have d41 : w4.cell? ⟨gc, 1, none⟩ = some (.slice A0_1 l0_1.length c0_1) := (blk_cell BC4.out 1).trans rfl; have x40 : w4.cell? ⟨ge, 0, none⟩ = some (.int .i64 a1) := (blk_cell BE4.out 0).trans rfl; have r40 : w4.cell? ⟨gr, 0, none⟩ = some (.int .i64 0) := (blk_cell BR4.out 0).trans rfl; have r41 : w4.cell? ⟨gr, 1, none⟩ = some (.slice none 0 0) := (blk_cell BR4.out 1).trans rfl; have q40 := blk_frozen BR4.out 0; have q41 := blk_frozen BR4.out 1; clear hb))
  refine bodyPost_ret (results_ct rfl _ _ gr 25 #[.int .i64 0, .slice none 0 0] (0, 0) _ rfl (blk_put (blk_put BR4.out 0 _ rfl) 1 _ rfl) Try.underlying25 rfl (by kernel_rfl)) rfl ?_
  exact ⟨_, rfl, Kd.R_nil _ _ _ _ _, below_set (below_set HB4.out GR.out) GR.out⟩
 | true =>
 rw [if_neg (by decide)] at h
 obtain ⟨t1, h1, h_⟩ := Option.bind_eq_some_iff.mp h
 clear h
 have h := h_
 have T1 := Aside0.mk h1
 clear h1 h_
 cases t1 with
 | false =>
  rw [if_pos rfl] at h
  simp only [Option.some.injEq, Prod.mk.injEq] at h
  obtain ⟨rfl, rfl, rfl⟩ := h
  go_enter Try.func31, Try.ntmps31
  go_wp2_with (first | ((with_reducible refine gate_dst (N := 2) rfl ?_); refine box_event ?hg (N := 2) ?hd (cs := #[.int .i64 a0_0, .slice A0_1 l0_1.length c0_1]) (t := 45) ?hr ?_; (case hd => rfl); (case hg => rfl); (case hr => first | (go_simp; done) | (go_simp; rfl)); intro gc hg_ w1 hbox hb; have HB1 := Aside0.mk (hb); have BC1 := Aside0.mk hbox; clear hg_ hbox hb) | ((with_reducible refine gate_dst (N := 3) rfl ?_); refine box_event ?hg (N := 3) ?hd (cs := #[.int .i64 a1]) (t := 3) ?hr ?_; (case hd => rfl); (case hg => rfl); (case hr => first | (go_simp; done) | (go_simp; rfl)); intro ge hg_ w2 hbox hb; have HB2 := Aside0.mk (below_step HB1.out hb); have BE2 := Aside0.mk hbox; have BC2 := Aside0.mk (blk_below BC1.out hb); clear hg_ hbox hb) | ((with_reducible refine gate_dst (N := 4) rfl ?_); refine box_event ?hg (N := 4) ?hd (cs := #[.int .i64 0, .slice none 0 0]) (t := 25) ?hr ?_; (case hd => rfl); (case hg => rfl); (case hr => first | (go_simp; done) | (go_simp; rfl)); intro gr hg_ w3 hbox hb; have HB3 := Aside0.mk (below_step HB2.out hb); have GR := Aside0.mk (show w.heap.size ≤ gr by rw [hg_]; exact HB2.out.size); have BR3 := Aside0.mk hbox; have BE3 := Aside0.mk (blk_below BE2.out hb); have BC3 := Aside0.mk (blk_below BC2.out hb); have d30 : w3.cell? ⟨gc, 0, none⟩ = some (.int .i64 a0_0) := (blk_cell BC3.out 0).trans rfl; have d31 : w3.cell? ⟨gc, 1, none⟩ = some (.slice A0_1 l0_1.length c0_1) := (blk_cell BC3.out 1).trans rfl; have x30 : w3.cell? ⟨ge, 0, none⟩ = some (.int .i64 a1) := (blk_cell BE3.out 0).trans rfl; clear hg_ hbox hb) | (go_at_call 75; (with_reducible refine (impl_CircuitValid.calls k a0_0 A0_1 c0_1 l0_1 true _ (Kd.C_below HR.out HB3.out) HC.out T0.out).mono ?_); rintro e w4 ⟨rfl, hb⟩; have HB4 := Aside0.mk (below_step HB3.out hb); have BC4 := Aside0.mk (blk_below BC3.out hb); have BE4 := Aside0.mk (blk_below BE3.out hb); have BR4 := Aside0.mk (blk_below BR3.out hb); have d40 : w4.cell? ⟨gc, 0, none⟩ = some (.int .i64 a0_0) := (blk_cell BC4.out 0).trans rfl; have d41 : w4.cell? ⟨gc, 1, none⟩ = some (.slice A0_1 l0_1.length c0_1) := (blk_cell BC4.out 1).trans rfl; have x40 : w4.cell? ⟨ge, 0, none⟩ = some (.int .i64 a1) := (blk_cell BE4.out 0).trans rfl; have r40 : w4.cell? ⟨gr, 0, none⟩ = some (.int .i64 0) := (blk_cell BR4.out 0).trans rfl; have r41 : w4.cell? ⟨gr, 1, none⟩ = some (.slice none 0 0) := (blk_cell BR4.out 1).trans rfl; have q40 := blk_frozen BR4.out 0; have q41 := blk_frozen BR4.out 1; clear hb) | (go_at_call 76; (with_reducible refine (impl_Circuit_isEdge.calls a0_0 A0_1 c0_1 l0_1 a1 false _ (Kd.C_below HR.out HB4.out) HC.out T1.out).mono ?_); rintro e w5 ⟨rfl, hb⟩; have HB5 := Aside0.mk (below_step HB4.out hb); have BC5 := Aside0.mk (blk_below BC4.out hb); have BE5 := Aside0.mk (blk_below BE4.out hb); have BR5 := Aside0.mk (blk_below BR4.out hb); have d50 : w5.cell? ⟨gc, 0, none⟩ = some (.int .i64 a0_0) := (blk_cell BC5.out 0).trans rfl; have d51 : w5.cell? ⟨gc, 1, none⟩ = some (.slice A0_1 l0_1.length c0_1) := (blk_cell BC5.out 1).trans rfl; have x50 : w5.cell? ⟨ge, 0, none⟩ = some (.int .i64 a1) := (blk_cell BE5.out 0).trans rfl; have r50 : w5.cell? ⟨gr, 0, none⟩ = some (.int .i64 0) := (blk_cell BR5.out 0).trans rfl; have r51 : w5.cell? ⟨gr, 1, none⟩ = some (.slice none 0 0) := (blk_cell BR5.out 1).trans rfl; have q50 := blk_frozen BR5.out 0; have q51 := blk_frozen BR5.out 1; clear hb))
  refine bodyPost_ret (results_ct rfl _ _ gr 25 #[.int .i64 0, .slice none 0 0] (0, 0) _ rfl (blk_put (blk_put BR5.out 0 _ rfl) 1 _ rfl) Try.underlying25 rfl (by kernel_rfl)) rfl ?_
  exact ⟨_, rfl, Kd.R_nil _ _ _ _ _, below_set (below_set HB5.out GR.out) GR.out⟩
 | true =>
 rw [if_neg (by decide)] at h
 obtain ⟨s, hs, h_⟩ := Option.bind_eq_some_iff.mp h
 obtain ⟨⟨s2, r⟩, hp, hd⟩ := Option.bind_eq_some_iff.mp h_
 have TS := Aside0.mk hs
 have TP := Aside0.mk hp
 have TD := Aside0.mk hd
 clear h h_ hs hp hd
 go_enter Try.func31, Try.ntmps31
 go_upto_region 3 with (first | ((with_reducible refine gate_dst (N := 2) rfl ?_); refine box_event ?hg (N := 2) ?hd (cs := #[.int .i64 a0_0, .slice A0_1 l0_1.length c0_1]) (t := 45) ?hr ?_; (case hd => rfl); (case hg => rfl); (case hr => first | (go_simp; done) | (go_simp; rfl)); intro gc hg_ w1 hbox hb; have HB1 := Aside0.mk (hb); have BC1 := Aside0.mk hbox; clear hg_ hbox hb) | ((with_reducible refine gate_dst (N := 3) rfl ?_); refine box_event ?hg (N := 3) ?hd (cs := #[.int .i64 a1]) (t := 3) ?hr ?_; (case hd => rfl); (case hg => rfl); (case hr => first | (go_simp; done) | (go_simp; rfl)); intro ge hg_ w2 hbox hb; have HB2 := Aside0.mk (below_step HB1.out hb); have BE2 := Aside0.mk hbox; have BC2 := Aside0.mk (blk_below BC1.out hb); clear hg_ hbox hb) | ((with_reducible refine gate_dst (N := 4) rfl ?_); refine box_event ?hg (N := 4) ?hd (cs := #[.int .i64 0, .slice none 0 0]) (t := 25) ?hr ?_; (case hd => rfl); (case hg => rfl); (case hr => first | (go_simp; done) | (go_simp; rfl)); intro gr hg_ w3 hbox hb; have HB3 := Aside0.mk (below_step HB2.out hb); have GR := Aside0.mk (show w.heap.size ≤ gr by rw [hg_]; exact HB2.out.size); have BR3 := Aside0.mk hbox; have BE3 := Aside0.mk (blk_below BE2.out hb); have BC3 := Aside0.mk (blk_below BC2.out hb); have d30 : w3.cell? ⟨gc, 0, none⟩ = some (.int .i64 a0_0) := (blk_cell BC3.out 0).trans rfl; have d31 : w3.cell? ⟨gc, 1, none⟩ = some (.slice A0_1 l0_1.length c0_1) := (blk_cell BC3.out 1).trans rfl; have x30 : w3.cell? ⟨ge, 0, none⟩ = some (.int .i64 a1) := (blk_cell BE3.out 0).trans rfl; clear hg_ hbox hb) | (go_at_call 75; (with_reducible refine (impl_CircuitValid.calls k a0_0 A0_1 c0_1 l0_1 true _ (Kd.C_below HR.out HB3.out) HC.out T0.out).mono ?_); rintro e w4 ⟨rfl, hb⟩; have HB4 := Aside0.mk (below_step HB3.out hb); have BC4 := Aside0.mk (blk_below BC3.out hb); have BE4 := Aside0.mk (blk_below BE3.out hb); have BR4 := Aside0.mk (blk_below BR3.out hb); have d40 : w4.cell? ⟨gc, 0, none⟩ = some (.int .i64 a0_0) := (blk_cell BC4.out 0).trans rfl; have d41 : w4.cell? ⟨gc, 1, none⟩ = some (.slice A0_1 l0_1.length c0_1) := (blk_cell BC4.out 1).trans rfl; have x40 : w4.cell? ⟨ge, 0, none⟩ = some (.int .i64 a1) := (blk_cell BE4.out 0).trans rfl; have r40 : w4.cell? ⟨gr, 0, none⟩ = some (.int .i64 0) := (blk_cell BR4.out 0).trans rfl; have r41 : w4.cell? ⟨gr, 1, none⟩ = some (.slice none 0 0) := (blk_cell BR4.out 1).trans rfl; have q40 := blk_frozen BR4.out 0; have q41 := blk_frozen BR4.out 1; clear hb) | (go_at_call 76; (with_reducible refine (impl_Circuit_isEdge.calls a0_0 A0_1 c0_1 l0_1 a1 true _ (Kd.C_below HR.out HB4.out) HC.out T1.out).mono ?_); rintro e w5 ⟨rfl, hb⟩; have HB5 := Aside0.mk (below_step HB4.out hb); have BC5 := Aside0.mk (blk_below BC4.out hb); have BE5 := Aside0.mk (blk_below BE4.out hb); have BR5 := Aside0.mk (blk_below BR4.out hb); have d50 : w5.cell? ⟨gc, 0, none⟩ = some (.int .i64 a0_0) := (blk_cell BC5.out 0).trans rfl; have d51 : w5.cell? ⟨gc, 1, none⟩ = some (.slice A0_1 l0_1.length c0_1) := (blk_cell BC5.out 1).trans rfl; have x50 : w5.cell? ⟨ge, 0, none⟩ = some (.int .i64 a1) := (blk_cell BE5.out 0).trans rfl; have r50 : w5.cell? ⟨gr, 0, none⟩ = some (.int .i64 0) := (blk_cell BR5.out 0).trans rfl; have r51 : w5.cell? ⟨gr, 1, none⟩ = some (.slice none 0 0) := (blk_cell BR5.out 1).trans rfl; have q50 := blk_frozen BR5.out 0; have q51 := blk_frozen BR5.out 1; clear hb))
 have HV : Aside0 (∀ wF, Below w5.heap.size w5 wF → wF.heap[gc]? = some (.cells #[.int .i64 a0_0, .slice A0_1 l0_1.length c0_1] 45 (0, 0)) → wF.heap[ge]? = some (.cells #[.int .i64 a1] 3 (0, 0)) → ∀ (bs : List Int) (b : Bool), impl_DiagramOf.is k a0_0 l0_1 a1 bs = some b → ∀ W, Kept wF W (fun k_ => w5.heap.size ≤ k_) → ∀ A c, Kd.C (Kd.int .i64) W A bs.length bs → bs.length ≤ c → Calls Try.prog 78 (#[.slice A bs.length c] ++ #[.pointer (some ⟨gc, 0, none⟩), .pointer (some ⟨ge, 0, none⟩)]) W fun e w' => e = .returned (.bool b) ∧ Below W.heap.size W w') := ⟨fun wF hbF hgcF hgeF bs b hbs W hk A c hC hcb => by
  have hlc := blk_lt BC5.out
  have hle := blk_lt BE5.out
  exact impl_DiagramOf.is_calls k a0_0 A0_1 c0_1 l0_1 a1 gc ge bs b A c W (Kd.C_kept_came (Kd.heap_iso _ (Kd.heap_pair (Kd.heap_int .i64) (Kd.heap_int .i64))) (Kd.C_below HR.out HB5.out) hbF (fun k_ h_ => h_) W hk) HC.out (blk_kept hgcF hk (fun h_ => by omega)) (blk_kept hgeF hk (fun h_ => by omega)) hC hcb hbs⟩
 go_wp2_with (first | (go_at_call 55; have FC_ : Calls Try.prog 55 #[.agg #[.int .i64 a0_0, .slice none 0 0]] w5 (fun e w' => ∃ g, e = .returned (.pointer (some ⟨g, 0, none⟩)) ∧ IsF w' w5.heap.size (fun k => w5.heap.size ≤ k) g s ∧ Below w5.heap.size w5 w') := impl_forkingOf.calls a0_0 none 0 [] s w5 (Kd.C_nil _ _) (Nat.le_refl _) TS.out; (with_reducible refine FC_.mono ?_); rintro e wF ⟨g, rfl, hi, hb⟩; clear FC_; have IF := Aside0.mk hi; have HBF := Aside0.mk hb; have BCF := Aside0.mk (blk_below BC5.out hb); have BEF := Aside0.mk (blk_below BE5.out hb); clear hi hb) | (go_at_call 77; have MC_ : Calls Try.prog 77 #[.pointer (some ⟨g, 0, none⟩), .slice none 0 0, .func (.func 78) #[] #[.pointer (some ⟨gc, 0, none⟩), .pointer (some ⟨ge, 0, none⟩)]] wF (fun e w' => e = .returned (.int .i64 r) ∧ IsF w' w5.heap.size (fun k_ => w5.heap.size ≤ k_) g s2 ∧ Below w5.heap.size w5 w' ∧ Kept wF w' (fun k_ => w5.heap.size ≤ k_)) := impl_forking_made.calls k (impl_DiagramOf.is k a0_0 l0_1 a1) 78 #[.pointer (some ⟨gc, 0, none⟩), .pointer (some ⟨ge, 0, none⟩)] eg s s2 [] r none 0 _ g w5 _ HBF.out IF.out (fun k_ hk => Nat.le_trans HBF.out.size hk) (fun W_ _ => Kd.C_nil _ _) (Nat.le_refl _) (HV.out wF HBF.out BCF.out BEF.out) TP.out; (with_reducible refine MC_.mono ?_); rintro e wG ⟨rfl, hi_, hb_, hk_⟩; have IG := Aside0.mk hi_; have HBG := Aside0.mk hb_; clear hi_ hb_ hk_ MC_) | (go_at_call 56; (with_reducible refine (impl_forking_done.calls s2 r r1 r2 r3 _ _ g _ IG.out TD.out).mono ?_); rintro e wD ⟨v1, rfl, hR, hb⟩; obtain ⟨A5, c5, rfl⟩ := Kd.R_slice hR; have HBD := Aside0.mk (below_then HBG.out HBG.out.size hb); have BRD := Aside0.mk (blk_below BR5.out HBD.out); have RD := Aside0.mk (Kd.R_lower hR (Nat.le_trans HB5.out.size HBG.out.size)); have r90 : wD.cell? ⟨gr, 0, none⟩ = some (.int .i64 0) := (blk_cell BRD.out 0).trans rfl; have r91 : wD.cell? ⟨gr, 1, none⟩ = some (.slice none 0 0) := (blk_cell BRD.out 1).trans rfl; have q90 := blk_frozen BRD.out 0; have q91 := blk_frozen BRD.out 1; clear hR hb))
 refine bodyPost_ret (results_ct rfl _ _ gr 25 #[.int .i64 r1, .slice A5 r2.length c5] (0, 0) _ rfl (blk_put (blk_put BRD.out 0 _ rfl) 1 _ rfl) Try.underlying25 rfl (by kernel_rfl)) rfl ?_
 exact ⟨_, rfl, Kd.R_mono (Kd.R_far (p := ⟨gr, 1, none⟩) (Kd.R_far (p := ⟨gr, 0, none⟩) (Kd.R_types RD.out BRD.out (by decide)) (fun _ hk => hk.2) _) (fun _ hk => hk.2) _) (fun _ _ => trivial), below_set (below_set (below_step HB5.out HBD.out) GR.out) GR.out⟩

/-! ### spec_l8Told: function 62 -/
def spec_l8Told.f (a0_0 : Int) (l0_1 : List (S71)) (a1 : Int) : Option (Int × (List (S71)) × Int) := if a1 < 0 then (some (0, ([] : List (S71)), (-1))) else (some (a0_0, l0_1, a1))
set_option maxHeartbeats 8000000 in
set_option maxRecDepth 100000 in
theorem spec_l8Told.calls (a0_0 : Int) (P0_1_ : Nat → Prop) (u9000_ : Value) (l0_1 : List (S71)) (a1 : Int) (r1 : Int) (r2 : List (S71)) (r3 : Int) (w0 w : World) (hB : Below w0.heap.size w0 w) (ho0_1 : Kd.R k71 71 w w0.heap.size P0_1_ u9000_ l0_1) (h : spec_l8Told.f a0_0 l0_1 a1 = some (r1, r2, r3)) :
  Calls Try.prog 62 #[.agg #[.int .i64 a0_0, u9000_], .int .i64 a1] w fun e w' => ∃ v1_ : Value, e = .returned (.tuple #[.agg #[.int .i64 r1, v1_], .int .i64 r3]) ∧ Kd.R k71 71 w' w0.heap.size (fun k_ => (P0_1_ k_ ∨ w.heap.size ≤ k_)) v1_ r2 ∧ Below w0.heap.size w0 w' ∧ Kept w w' (fun k_ => P0_1_ k_) := by
 have hu25 := Try.underlying25
 have HO0_1 := Aside0.mk (show Kd.R k71 71 w w0.heap.size (fun k_ => (P0_1_ k_ ∨ w.heap.size ≤ k_)) u9000_ l0_1 from Kd.R_mono ho0_1 (fun k_ hk => (.inl hk)))
 have HK := Aside0.mk (Kept.refl w (fun k_ => P0_1_ k_))
 have HW0 := Aside0.mk hB.size
 have HB := Aside0.mk hB
 clear hB
 have H : (if a1 < 0 then (some (0, ([] : List (S71)), (-1))) else (some (a0_0, l0_1, a1))) = some (r1, r2, r3) := h
 clear h
 by_cases c3 : a1 < 0
 ·rw [if_pos c3] at H
  have c3b0 : decide (a1 < 0) = true := decide_eq_true c3
  clear c3
  simp only [Option.some.injEq, Prod.mk.injEq] at H
  obtain ⟨rfl, rfl, rfl⟩ := H
  obtain ⟨Ao4, co4, eo4⟩ := Kd.R_slice HO0_1.out
  subst eo4
  go_enter Try.func62, Try.ntmps62
  go_wp2_with (first | ((with_reducible refine gate_dst (N := 2) rfl ?_); refine box_event ?hg (N := 2) ?hd (cs := #[.int .i64 a0_0, .slice Ao4 l0_1.length co4]) (t := 25) ?hr ?_; (case hd => rfl); (case hg => rfl); (case hr => first | (go_simp; done) | (go_simp; rfl)); intro gb222 hg w5 hbox hb; have n0_ := Aside0.mk (Kd.R_below (rvR HO0_1.out) hb); have n1_ := Aside0.mk (Kept.below (S := (fun k_ => P0_1_ k_)) (by repeat (first | (with_reducible first | exact HK.out | apply Kept.alloc | apply Kept.drewN | apply Kept.drew) | exact HK.out)) hb); have n2_ := Aside0.mk (below_step (by repeat (first | (with_reducible first | exact HB.out | apply bwA | apply bwN | apply bwD) | exact HB.out)) hb); have n3_ := Aside0.mk (hbox); have n4_ := Aside0.mk ((by rw [hg]; exact (by first | exact HK.out.1 | exact (show Kept w _ (fun k_ => P0_1_ k_) from by repeat (first | (with_reducible first | exact HK.out | apply Kept.alloc | apply Kept.drewN | apply Kept.drew) | exact HK.out)).1) : w.heap.size ≤ gb222)); have n5_ := Aside0.mk ((by rw [hg]; exact (below_size (by repeat (first | (with_reducible first | exact HB.out | apply bwA | apply bwN | apply bwD) | exact HB.out))) : w0.heap.size ≤ gb222)); clear HO0_1; clear HK; clear HB; have HO0_1 := n0_; have HK := n1_; have HB := n2_; have BK222 := n3_; have GW222 := n4_; have GE222 := n5_; clear n0_ n1_ n2_ n3_ n4_ n5_; clear hb hbox hg) | ((with_reducible refine gate_dst (N := 4) rfl ?_); refine box_event ?hg (N := 4) ?hd (cs := #[.int .i64 0, .slice none 0 0]) (t := 25) ?hr ?_; (case hd => rfl); (case hg => rfl); (case hr => first | (go_simp; done) | (go_simp; rfl)); intro gb223 hg w6 hbox hb; have n0_ := Aside0.mk (Kd.R_below (rvR HO0_1.out) hb); have n1_ := Aside0.mk (blk_below (g := gb222) (o := .cells #[.int .i64 a0_0, .slice Ao4 l0_1.length co4] 25 (0, 0)) (bvK BK222.out) hb); have n2_ := Aside0.mk (Kept.below (S := (fun k_ => P0_1_ k_)) (by repeat (first | (with_reducible first | exact HK.out | apply Kept.alloc | apply Kept.drewN | apply Kept.drew | refine Kept.setCell ?_ (.inr GW222.out) _) | exact HK.out)) hb); have n3_ := Aside0.mk (below_step (by repeat (first | (with_reducible first | exact HB.out | apply bwA | apply bwN | apply bwD | refine below_set ?_ GE222.out) | exact HB.out)) hb); have n4_ := Aside0.mk (hbox); have n5_ := Aside0.mk ((by rw [hg]; exact (by first | exact HK.out.1 | exact (show Kept w _ (fun k_ => P0_1_ k_) from by repeat (first | (with_reducible first | exact HK.out | apply Kept.alloc | apply Kept.drewN | apply Kept.drew | refine Kept.setCell ?_ (.inr GW222.out) _) | exact HK.out)).1) : w.heap.size ≤ gb223)); have n6_ := Aside0.mk ((by rw [hg]; exact (below_size (by repeat (first | (with_reducible first | exact HB.out | apply bwA | apply bwN | apply bwD | refine below_set ?_ GE222.out) | exact HB.out))) : w0.heap.size ≤ gb223)); have n7_ := Aside0.mk ((by rw [hg]; exact Nat.ne_of_lt (blk_lt (g := gb222) (o := .cells #[.int .i64 a0_0, .slice Ao4 l0_1.length co4] 25 (0, 0)) (bvK BK222.out)) : gb222 ≠ gb223)); have n8_ := Aside0.mk ((by rw [hg]; exact Nat.ne_of_gt (blk_lt (g := gb222) (o := .cells #[.int .i64 a0_0, .slice Ao4 l0_1.length co4] 25 (0, 0)) (bvK BK222.out)) : gb223 ≠ gb222)); clear HO0_1; clear BK222; clear HK; clear HB; have HO0_1 := n0_; have BK222 := n1_; have HK := n2_; have HB := n3_; have BK223 := n4_; have GW223 := n5_; have GE223 := n6_; have NB222_223 := n7_; have NB223_222 := n8_; clear n0_ n1_ n2_ n3_ n4_ n5_ n6_ n7_ n8_; clear hb hbox hg; have hnb7 := NB223_222.out; have hnc7 := NB222_223.out; have hcz8_0 : w6.cell? ⟨gb223, 0, none⟩ = some (.int .i64 0) := (blk_cell BK223.out 0).trans rfl; have hcz8_1 : w6.cell? ⟨gb223, 1, none⟩ = some (.slice none 0 0) := (blk_cell BK223.out 1).trans rfl; have hfz8_0 := blk_frozen BK223.out 0; have hfz8_1 := blk_frozen BK223.out 1))
  refine bodyPost_ret (results_ct rfl _ _ gb223 25 #[.int .i64 0, .slice none 0 0] (0, 0) _ rfl (by (with_reducible repeat (first | refine blk_drewN ?_ _ | refine blk_drew ?_ | refine blk_alloc ?_ _)); refine blk_put (cs := #[.int .i64 0, .slice none 0 0]) ?_ 1 _ rfl; (with_reducible repeat (first | refine blk_drewN ?_ _ | refine blk_drew ?_ | refine blk_alloc ?_ _)); refine blk_put (cs := #[.int .i64 0, .slice none 0 0]) ?_ 0 _ rfl; (with_reducible repeat (first | refine blk_drewN ?_ _ | refine blk_drew ?_ | refine blk_alloc ?_ _)); exact BK223.out) Try.underlying25 rfl (by kernel_rfl)) rfl ?_
  exact ⟨_, ers, by first | exact Kd.R_nil _ _ _ _ _ | exact Kd.N_nil _ _ _ _ _ | exact Kd.V_nil _ _ _ _ _ | exact Kd.Q_nil _ _ _ _ _ | exact Kd.S_nil _ _ _ _ _, by repeat (first | (with_reducible first | exact HB.out | apply bwA | apply bwN | apply bwD | refine below_set ?_ GE222.out | refine below_set ?_ GE223.out) | exact HB.out), by repeat (first | (with_reducible first | exact HK.out | apply Kept.alloc | apply Kept.drewN | apply Kept.drew | refine Kept.setCell ?_ (.inr GW222.out) _ | refine Kept.setCell ?_ (.inr GW223.out) _) | exact HK.out)⟩
 ·rw [if_neg c3] at H
  have c3b0 : decide (a1 < 0) = false := decide_eq_false c3
  clear c3
  simp only [Option.some.injEq, Prod.mk.injEq] at H
  obtain ⟨rfl, rfl, rfl⟩ := H
  obtain ⟨Ao9, co9, eo9⟩ := Kd.R_slice HO0_1.out
  subst eo9
  go_enter Try.func62, Try.ntmps62
  go_wp2_with (first | ((with_reducible refine gate_dst (N := 2) rfl ?_); refine box_event ?hg (N := 2) ?hd (cs := #[.int .i64 a0_0, .slice Ao9 l0_1.length co9]) (t := 25) ?hr ?_; (case hd => rfl); (case hg => rfl); (case hr => first | (go_simp; done) | (go_simp; rfl)); intro gb222 hg w10 hbox hb; have n0_ := Aside0.mk (Kd.R_below (rvR HO0_1.out) hb); have n1_ := Aside0.mk (Kept.below (S := (fun k_ => P0_1_ k_)) (by repeat (first | (with_reducible first | exact HK.out | apply Kept.alloc | apply Kept.drewN | apply Kept.drew) | exact HK.out)) hb); have n2_ := Aside0.mk (below_step (by repeat (first | (with_reducible first | exact HB.out | apply bwA | apply bwN | apply bwD) | exact HB.out)) hb); have n3_ := Aside0.mk (hbox); have n4_ := Aside0.mk ((by rw [hg]; exact (by first | exact HK.out.1 | exact (show Kept w _ (fun k_ => P0_1_ k_) from by repeat (first | (with_reducible first | exact HK.out | apply Kept.alloc | apply Kept.drewN | apply Kept.drew) | exact HK.out)).1) : w.heap.size ≤ gb222)); have n5_ := Aside0.mk ((by rw [hg]; exact (below_size (by repeat (first | (with_reducible first | exact HB.out | apply bwA | apply bwN | apply bwD) | exact HB.out))) : w0.heap.size ≤ gb222)); clear HO0_1; clear HK; clear HB; have HO0_1 := n0_; have HK := n1_; have HB := n2_; have BK222 := n3_; have GW222 := n4_; have GE222 := n5_; clear n0_ n1_ n2_ n3_ n4_ n5_; clear hb hbox hg) | ((with_reducible refine gate_dst (N := 4) rfl ?_); refine box_event ?hg (N := 4) ?hd (cs := #[.int .i64 0, .slice none 0 0]) (t := 25) ?hr ?_; (case hd => rfl); (case hg => rfl); (case hr => first | (go_simp; done) | (go_simp; rfl)); intro gb223 hg w11 hbox hb; have n0_ := Aside0.mk (Kd.R_below (rvR HO0_1.out) hb); have n1_ := Aside0.mk (blk_below (g := gb222) (o := .cells #[.int .i64 a0_0, .slice Ao9 l0_1.length co9] 25 (0, 0)) (bvK BK222.out) hb); have n2_ := Aside0.mk (Kept.below (S := (fun k_ => P0_1_ k_)) (by repeat (first | (with_reducible first | exact HK.out | apply Kept.alloc | apply Kept.drewN | apply Kept.drew | refine Kept.setCell ?_ (.inr GW222.out) _) | exact HK.out)) hb); have n3_ := Aside0.mk (below_step (by repeat (first | (with_reducible first | exact HB.out | apply bwA | apply bwN | apply bwD | refine below_set ?_ GE222.out) | exact HB.out)) hb); have n4_ := Aside0.mk (hbox); have n5_ := Aside0.mk ((by rw [hg]; exact (by first | exact HK.out.1 | exact (show Kept w _ (fun k_ => P0_1_ k_) from by repeat (first | (with_reducible first | exact HK.out | apply Kept.alloc | apply Kept.drewN | apply Kept.drew | refine Kept.setCell ?_ (.inr GW222.out) _) | exact HK.out)).1) : w.heap.size ≤ gb223)); have n6_ := Aside0.mk ((by rw [hg]; exact (below_size (by repeat (first | (with_reducible first | exact HB.out | apply bwA | apply bwN | apply bwD | refine below_set ?_ GE222.out) | exact HB.out))) : w0.heap.size ≤ gb223)); have n7_ := Aside0.mk ((by rw [hg]; exact Nat.ne_of_lt (blk_lt (g := gb222) (o := .cells #[.int .i64 a0_0, .slice Ao9 l0_1.length co9] 25 (0, 0)) (bvK BK222.out)) : gb222 ≠ gb223)); have n8_ := Aside0.mk ((by rw [hg]; exact Nat.ne_of_gt (blk_lt (g := gb222) (o := .cells #[.int .i64 a0_0, .slice Ao9 l0_1.length co9] 25 (0, 0)) (bvK BK222.out)) : gb223 ≠ gb222)); clear HO0_1; clear BK222; clear HK; clear HB; have HO0_1 := n0_; have BK222 := n1_; have HK := n2_; have HB := n3_; have BK223 := n4_; have GW223 := n5_; have GE223 := n6_; have NB222_223 := n7_; have NB223_222 := n8_; clear n0_ n1_ n2_ n3_ n4_ n5_ n6_ n7_ n8_; clear hb hbox hg; have hnb12 := NB222_223.out; have hnc12 := NB223_222.out; have hcz13_0 : w11.cell? ⟨gb222, 0, none⟩ = some (.int .i64 a0_0) := (blk_cell BK222.out 0).trans rfl; have hcz13_1 : w11.cell? ⟨gb222, 1, none⟩ = some (.slice Ao9 l0_1.length co9) := (blk_cell BK222.out 1).trans rfl; have hfz13_0 := blk_frozen BK222.out 0; have hfz13_1 := blk_frozen BK222.out 1; have hcz14_0 : w11.cell? ⟨gb223, 0, none⟩ = some (.int .i64 0) := (blk_cell BK223.out 0).trans rfl; have hcz14_1 : w11.cell? ⟨gb223, 1, none⟩ = some (.slice none 0 0) := (blk_cell BK223.out 1).trans rfl; have hfz14_0 := blk_frozen BK223.out 0; have hfz14_1 := blk_frozen BK223.out 1))
  refine bodyPost_ret (results_ct rfl _ _ gb223 25 #[.int .i64 a0_0, .slice Ao9 l0_1.length co9] (0, 0) _ rfl (by (with_reducible repeat (first | refine blk_drewN ?_ _ | refine blk_drew ?_ | refine blk_alloc ?_ _)); refine blk_put (cs := #[.int .i64 a0_0, .slice none 0 0]) ?_ 1 _ rfl; (with_reducible repeat (first | refine blk_drewN ?_ _ | refine blk_drew ?_ | refine blk_alloc ?_ _)); refine blk_put (cs := #[.int .i64 0, .slice none 0 0]) ?_ 0 _ rfl; (with_reducible repeat (first | refine blk_drewN ?_ _ | refine blk_drew ?_ | refine blk_alloc ?_ _)); exact BK223.out) Try.underlying25 rfl (by kernel_rfl)) rfl ?_
  exact ⟨_, ers, by (with_reducible repeat (first | apply Kd.R_alloc | apply Kd.R_drewN | apply Kd.R_drew)); exact Kd.R_mono (Kd.R_far (p := ⟨gb223, 1, none⟩) (Kd.R_far (p := ⟨gb223, 0, none⟩) (Kd.R_types HO0_1.out BK223.out (by decide)) (fun _ hk => hk.2) (.int .i64 a0_0)) (fun _ hk => hk.2) (.slice Ao9 l0_1.length co9)) (fun _ hk => hk.1), by repeat (first | (with_reducible first | exact HB.out | apply bwA | apply bwN | apply bwD | refine below_set ?_ GE222.out | refine below_set ?_ GE223.out) | exact HB.out), by repeat (first | (with_reducible first | exact HK.out | apply Kept.alloc | apply Kept.drewN | apply Kept.drew | refine Kept.setCell ?_ (.inr GW222.out) _ | refine Kept.setCell ?_ (.inr GW223.out) _) | exact HK.out)⟩

/-! ### spec_l1In: function 65 -/
def spec_l1In.f (a0 : Int) (a1 : Int) (a2 : Int) : Option (Bool) := if a0 ≥ a1 then (some (decide (a0 ≤ a2))) else (some false)
set_option maxHeartbeats 8000000 in
set_option maxRecDepth 100000 in
theorem spec_l1In.calls (a0 : Int) (a1 : Int) (a2 : Int) (r : Bool) (w : World) (h : spec_l1In.f a0 a1 a2 = some r) :
  Calls Try.prog 65 #[.int .i64 a0, .int .i64 a1, .int .i64 a2] w fun e w' => e = .returned (.bool r) ∧ Drawn0 w w' := by
 have H : (if a0 ≥ a1 then (some (decide (a0 ≤ a2))) else (some false)) = some r := h
 clear h
 by_cases c4 : a0 ≥ a1
 ·rw [if_pos c4] at H
  have c4b0 : decide (a1 ≤ a0) = true := decide_eq_true c4
  clear c4
  obtain rfl := Option.some.inj H
  go_enter Try.func65, Try.ntmps65
  go_wp2
  go_ret
  exact ⟨by first | rfl | (simp; done) | (simp [*]; done), by repeat (first | exact Drawn0.refl _ | apply Drawn0.step)⟩
 ·rw [if_neg c4] at H
  have c4b0 : decide (a1 ≤ a0) = false := decide_eq_false c4
  clear c4
  obtain rfl := Option.some.inj H
  go_enter Try.func65, Try.ntmps65
  go_wp2
  go_ret
  exact ⟨by first | rfl | (simp; done) | (simp [*]; done), by repeat (first | exact Drawn0.refl _ | apply Drawn0.step)⟩

/-! ### spec_CircuitValid: function 81 -/
mutual
def spec_CircuitValid.j0 : Nat → Bool → Int → List (S121) → Option (Bool)
 | 0, _, _, _ => none
 | k + 1, x14, x225000, x225001 => if x14 = true then (some false) else (spec_CircuitValid.l0 k 0 x225000 x225001)
def spec_CircuitValid.l0 : Nat → Int → Int → List (S121) → Option (Bool)
 | 0, _, _, _ => none
 | k + 1, x3, x225000, x225001 => if x3 < (x225001.length : Int) then (if 0 ≤ x3 then ((spec_l1In.f ((rd_T121 x225001 x3).f0) 0 (wrap64 ((wrap64 (2 * (wrap64 ((wrap64 (1 + x225000)) + x3)))) - 1))).bind fun t227 => (if t227 = true then ((spec_l1In.f ((rd_T121 x225001 x3).f1) 0 (wrap64 ((wrap64 (2 * (wrap64 ((wrap64 (1 + x225000)) + x3)))) - 1))).bind fun t229 => (if t229 = true then (spec_CircuitValid.l0 k (wrap64 (x3 + 1)) x225000 x225001) else (some false))) else (some false))) else (none)) else (some true)
end
def spec_CircuitValid.f (k : Nat) (a0_0 : Int) (l0_1 : List (S121)) : Option (Bool) := (spec_l1In.f a0_0 0 12).bind fun t225 => (if t225 = true then (spec_CircuitValid.j0 k (decide ((l0_1.length : Int) > 600)) a0_0 l0_1) else (spec_CircuitValid.j0 k true a0_0 l0_1))
theorem spec_CircuitValid.mono_l : ∀ k, (∀ y0 y1 y2, LeO (spec_CircuitValid.j0 k y0 y1 y2) (spec_CircuitValid.j0 (k + 1) y0 y1 y2)) ∧ (∀ y0 y1 y2, LeO (spec_CircuitValid.l0 k y0 y1 y2) (spec_CircuitValid.l0 (k + 1) y0 y1 y2))
 | 0 => ⟨fun _ _ _ r h => by simp [spec_CircuitValid.j0] at h, fun _ _ _ r h => by simp [spec_CircuitValid.l0] at h⟩
 | k + 1 => by
  obtain ⟨ih0, ih1⟩ := spec_CircuitValid.mono_l k
  refine ⟨?_, ?_⟩
  ·intro y0 y1 y2
   unfold spec_CircuitValid.j0
   repeat' first
   | (with_reducible exact ih0 _ _ _)
   | (with_reducible exact ih1 _ _ _)
   | (with_reducible exact LeO.refl _)
   | (with_reducible exact LeO.none _)
   | (with_reducible refine LeO.ite ?_ ?_)
   | (with_reducible refine LeO.bind ?_ (fun _ => ?_))
   | exact ih0 _ _ _
   | exact ih1 _ _ _
   | exact LeO.none _
   | refine LeO.ite ?_ ?_
   | refine LeO.bind ?_ (fun _ => ?_)
  ·intro y0 y1 y2
   unfold spec_CircuitValid.l0
   repeat' first
   | (with_reducible exact ih0 _ _ _)
   | (with_reducible exact ih1 _ _ _)
   | (with_reducible exact LeO.refl _)
   | (with_reducible exact LeO.none _)
   | (with_reducible refine LeO.ite ?_ ?_)
   | (with_reducible refine LeO.bind ?_ (fun _ => ?_))
   | exact ih0 _ _ _
   | exact ih1 _ _ _
   | exact LeO.none _
   | refine LeO.ite ?_ ?_
   | refine LeO.bind ?_ (fun _ => ?_)
theorem spec_CircuitValid.mono : ∀ a0 a1 k, LeO (spec_CircuitValid.f k a0 a1) (spec_CircuitValid.f (k + 1) a0 a1) := by
 intro a0 a1 k
 obtain ⟨ih0, ih1⟩ := spec_CircuitValid.mono_l k
 unfold spec_CircuitValid.f
 repeat' first
   | (with_reducible exact ih0 _ _ _)
   | (with_reducible exact ih1 _ _ _)
   | (with_reducible exact LeO.refl _)
   | (with_reducible exact LeO.none _)
   | (with_reducible refine LeO.ite ?_ ?_)
   | (with_reducible refine LeO.bind ?_ (fun _ => ?_))
   | exact ih0 _ _ _
   | exact ih1 _ _ _
   | exact LeO.none _
   | refine LeO.ite ?_ ?_
   | refine LeO.bind ?_ (fun _ => ?_)
set_option maxHeartbeats 8000000 in
set_option maxRecDepth 100000 in
theorem spec_CircuitValid.calls (k : Nat) (a0_0 : Int) (A0_1 : Option Addr) (c0_1 : Nat) (l0_1 : List (S121)) (r : Bool) (w : World) (hr0_1 : Kd.C k121 w A0_1 l0_1.length l0_1) (hc0_1 : l0_1.length ≤ c0_1) (h : spec_CircuitValid.f k a0_0 l0_1 = some r) :
  Calls Try.prog 81 #[.agg #[.int .i64 a0_0, .slice A0_1 l0_1.length c0_1]] w fun e w' => e = .returned (.bool r) ∧ Below w.heap.size w w' := by
 have hu45 := Try.underlying45
 have HR0_1 := Aside0.mk hr0_1
 have HC0_1 := Aside0.mk hc0_1
 clear hr0_1 hc0_1
 have HB := Aside0.mk (Below.refl w.heap.size w)
 have H : ((spec_l1In.f a0_0 0 12).bind fun t225 => (if t225 = true then (spec_CircuitValid.j0 k (decide ((l0_1.length : Int) > 600)) a0_0 l0_1) else (spec_CircuitValid.j0 k true a0_0 l0_1))) = some r := h
 clear h
 have HC2 := Aside0.mk H
 clear H
 go_enter Try.func81, Try.ntmps81
 go_upto_region 1 with (first | ((with_reducible refine gate_dst (N := 1) rfl ?_); (try (refine gate_guard (by rfl) ?_; dsimp only)); refine box_event ?hg (N := 1) ?hd (cs := #[.int .i64 a0_0, .slice A0_1 l0_1.length c0_1]) (t := 45) ?hr ?_; (case hd => rfl); (case hg => rfl); (case hr => first | (go_simp; done) | (go_simp; rfl)); intro gb224 hg w3 hbox hb; have n0_ := Aside0.mk (below_step (by repeat (first | (with_reducible first | exact HB.out | apply bwA | apply bwN | apply bwD) | exact HB.out)) hb); have n1_ := Aside0.mk (hbox); have n2_ := Aside0.mk ((by rw [hg]; exact (below_size (by repeat (first | (with_reducible first | exact HB.out | apply bwA | apply bwN | apply bwD) | exact HB.out))) : w.heap.size ≤ gb224)); have n3_ := Aside0.mk ((by rw [hg]; exact (below_size (by repeat (first | (with_reducible first | exact HB.out | apply bwA | apply bwN | apply bwD) | exact HB.out))) : w.heap.size ≤ gb224)); clear HB; have HB := n0_; have BK224 := n1_; have GW224 := n2_; have GE224 := n3_; clear n0_ n1_ n2_ n3_; clear hb hbox hg))
 (try simp only [Act.put, List.setIfInBounds_toArray, List.set_cons_zero, List.set_cons_succ])
 go_cut [14] (fun v14 wc => ∃ (kq : Nat) (x14_1 : Bool), v14 = .bool x14_1 ∧ Aside0 (spec_CircuitValid.j0 kq x14_1 a0_0 l0_1 = some r) ∧ Aside0 (kq ≤ k) ∧ Aside0 (wc.heap[gb224]? = some (.cells #[.int .i64 a0_0, (.slice A0_1 l0_1.length c0_1)] 45 (0, 0))) ∧ Aside0 (Below w.heap.size w wc))
 case first =>
  have H := HC2.out
  clear HC2
  replace H := Option.bind_eq_some_iff.mp H
  obtain ⟨t225, A40, H⟩ := H
  replace H : (if t225 = true then (spec_CircuitValid.j0 k (decide ((l0_1.length : Int) > 600)) a0_0 l0_1) else (spec_CircuitValid.j0 k true a0_0 l0_1)) = some r := H
  have A4 := Aside0.mk A40
  clear A40
  by_cases c5 : t225 = true
  ·subst c5
   have H1 : (spec_CircuitValid.j0 k (decide ((l0_1.length : Int) > 600)) a0_0 l0_1) = some r := by rw [if_pos rfl] at H; exact H
   clear H
   have H := H1
   clear H1
   have H' := Aside0.mk H
   clear H
   have hcz6_0 : w3.cell? ⟨gb224, 0, none⟩ = some (.int .i64 a0_0) := (blk_cell BK224.out 0).trans rfl
   have hcz6_1 : w3.cell? ⟨gb224, 1, none⟩ = some (.slice A0_1 l0_1.length c0_1) := (blk_cell BK224.out 1).trans rfl
   have hfz6_0 := blk_frozen BK224.out 0
   have hfz6_1 := blk_frozen BK224.out 1
   go_wp2_with (first | ((with_reducible refine gate_callee (f := 65) rfl ?_); refine goesL_ (some 7) rfl rfl Try.func65 (by kernel_rfl) rfl #[.int .i64 a0_0, .int .i64 0, .int .i64 12] rfl lmB ?_; (with_reducible refine (spec_l1In.calls a0_0 0 12 true _ A4.out).mono ?_); rintro e w' ⟨rfl, ⟨nd, rfl⟩⟩; refine ⟨_, rfl, ?_⟩))
   go_meet
   case rel => exact ⟨_, (decide ((l0_1.length : Int) > 600)), rsd, H', ⟨by first | omega | exact Nat.le_refl _⟩, ⟨bvK BK224.out⟩, ⟨by repeat (first | (with_reducible first | exact HB.out | apply bwA | apply bwN | apply bwD | refine below_set ?_ GE224.out) | exact HB.out)⟩⟩
  ·replace c5 := Bool.eq_false_iff.mpr c5
   subst c5
   have H1 : (spec_CircuitValid.j0 k true a0_0 l0_1) = some r := by rw [if_neg (show ¬ (false = true) by decide)] at H; exact H
   clear H
   have H := H1
   clear H1
   have H' := Aside0.mk H
   clear H
   have hcz7_0 : w3.cell? ⟨gb224, 0, none⟩ = some (.int .i64 a0_0) := (blk_cell BK224.out 0).trans rfl
   have hcz7_1 : w3.cell? ⟨gb224, 1, none⟩ = some (.slice A0_1 l0_1.length c0_1) := (blk_cell BK224.out 1).trans rfl
   have hfz7_0 := blk_frozen BK224.out 0
   have hfz7_1 := blk_frozen BK224.out 1
   go_wp2_with (first | ((with_reducible refine gate_callee (f := 65) rfl ?_); refine goesL_ (some 7) rfl rfl Try.func65 (by kernel_rfl) rfl #[.int .i64 a0_0, .int .i64 0, .int .i64 12] rfl lmB ?_; (with_reducible refine (spec_l1In.calls a0_0 0 12 false _ A4.out).mono ?_); rintro e w' ⟨rfl, ⟨nd, rfl⟩⟩; refine ⟨_, rfl, ?_⟩))
   go_meet
   case rel => exact ⟨_, (true), rsd, H', ⟨by first | omega | exact Nat.le_refl _⟩, ⟨bvK BK224.out⟩, ⟨by repeat (first | (with_reducible first | exact HB.out | apply bwA | apply bwN | apply bwD | refine below_set ?_ GE224.out) | exact HB.out)⟩⟩
 case rest =>
  clear HC2
  try clear p2
  try clear c5
  try clear c6
  try clear hcz6_0
  try clear hcz6_1
  try clear hcz7_0
  try clear hcz7_1
  try clear hfz6_0
  try clear hfz6_1
  try clear hfz7_0
  try clear hfz7_1
  obtain ⟨kq, x14_1, rfl, HA, HJ1, BK224, HB⟩ := hcut
  cases kq with
  | zero => exact absurd HA.out (by simp [spec_CircuitValid.j0])
  | succ kj1 =>
   have H := HA.out
   clear HA
   simp only [spec_CircuitValid.j0] at H
   by_cases c8 : x14_1 = true
   ·subst c8
    have H1 : (some false) = some r := by rw [if_pos rfl] at H; exact H
    clear H
    have H := H1
    clear H1
    obtain rfl := Option.some.inj H
    go_wp2
    go_ret
    exact ⟨ers, by repeat (first | (with_reducible first | exact HB.out | apply bwA | apply bwN | apply bwD | refine below_set ?_ GE224.out) | exact HB.out)⟩
   ·replace c8 := Bool.eq_false_iff.mpr c8
    subst c8
    have H1 : (spec_CircuitValid.l0 kj1 0 a0_0 l0_1) = some r := by rw [if_neg (show ¬ (false = true) by decide)] at H; exact H
    clear H
    have H := H1
    clear H1
    have H' := Aside0.mk H
    clear H
    go_wp2
    go_loopg [3] kj1 (fun kq v3 w' => ∃ (x3_2 : Int), v3 = .int .i64 x3_2 ∧ Aside0 (spec_CircuitValid.l0 kq x3_2 a0_0 l0_1 = some r) ∧ Aside0 (kq ≤ kj1) ∧ Aside0 (w'.heap[gb224]? = some (.cells #[.int .i64 a0_0, (.slice A0_1 l0_1.length c0_1)] 45 (0, 0))) ∧ Aside0 (Below w.heap.size w w'))
    case atStart => exact ⟨(0), rsd, H', ⟨Nat.le_refl _⟩, ⟨bvK BK224.out⟩, ⟨by repeat (first | (with_reducible first | exact HB.out | apply bwA | apply bwN | apply bwD | refine below_set ?_ GE224.out) | exact HB.out)⟩⟩
    case round =>
     clear H'
     try clear p2
     try clear c5
     try clear c6
     try clear c8
     try clear hcz6_0
     try clear hcz6_1
     try clear hcz7_0
     try clear hcz7_1
     try clear hfz6_0
     try clear hfz6_1
     try clear hfz7_0
     try clear hfz7_1
     try clear p2
     obtain ⟨x3_2, rfl, HA, HK2, BK224, HB⟩ := hrel
     cases gk with
     | zero => exact absurd HA.out (by simp [spec_CircuitValid.l0])
     | succ k2 =>
      have H := HA.out
      clear HA
      simp only [spec_CircuitValid.l0] at H
      by_cases c9 : x3_2 < (l0_1.length : Int)
      ·rw [if_pos c9] at H
       have c9b0 : decide (x3_2 < (l0_1.length : Int)) = true := decide_eq_true c9
       clear c9
       by_cases c10 : 0 ≤ x3_2
       ·rw [if_pos c10] at H
        have c10b0 : decide (0 ≤ x3_2) = true := decide_eq_true c10
        clear c10
        replace H := Option.bind_eq_some_iff.mp H
        obtain ⟨t227, A110, H⟩ := H
        replace H : (if t227 = true then ((spec_l1In.f ((rd_T121 l0_1 x3_2).f1) 0 (wrap64 ((wrap64 (2 * (wrap64 ((wrap64 (1 + a0_0)) + x3_2)))) - 1))).bind fun t229 => (if t229 = true then (spec_CircuitValid.l0 k2 (wrap64 (x3_2 + 1)) a0_0 l0_1) else (some false))) else (some false)) = some r := H
        have A11 := Aside0.mk A110
        clear A110
        by_cases c12 : t227 = true
        ·subst c12
         have H1 : ((spec_l1In.f ((rd_T121 l0_1 x3_2).f1) 0 (wrap64 ((wrap64 (2 * (wrap64 ((wrap64 (1 + a0_0)) + x3_2)))) - 1))).bind fun t229 => (if t229 = true then (spec_CircuitValid.l0 k2 (wrap64 (x3_2 + 1)) a0_0 l0_1) else (some false))) = some r := by rw [if_pos rfl] at H; exact H
         clear H
         have H := H1
         clear H1
         replace H := Option.bind_eq_some_iff.mp H
         obtain ⟨t229, A130, H⟩ := H
         replace H : (if t229 = true then (spec_CircuitValid.l0 k2 (wrap64 (x3_2 + 1)) a0_0 l0_1) else (some false)) = some r := H
         have A13 := Aside0.mk A130
         clear A130
         by_cases c14 : t229 = true
         ·subst c14
          have H1 : (spec_CircuitValid.l0 k2 (wrap64 (x3_2 + 1)) a0_0 l0_1) = some r := by rw [if_pos rfl] at H; exact H
          clear H
          have H := H1
          clear H1
          have H' := Aside0.mk H
          clear H
          have hcz15_0 : wr.cell? ⟨gb224, 0, none⟩ = some (.int .i64 a0_0) := (blk_cell BK224.out 0).trans rfl
          have hcz15_1 : wr.cell? ⟨gb224, 1, none⟩ = some (.slice A0_1 l0_1.length c0_1) := (blk_cell BK224.out 1).trans rfl
          have hfz15_0 := blk_frozen BK224.out 0
          have hfz15_1 := blk_frozen BK224.out 1
          have p226 : 0 ≤ (x3_2 : Int) := oda
          have q226 : x3_2 < (l0_1.length : Int) := oda
          obtain ⟨ad226, e226, hx226_0, hx226_1⟩ := at_T121 HR0_1.out x3_2 p226 q226
          cases e226
          try replace hx226_0 := bct HB.out hx226_0
          try replace hx226_1 := bct HB.out hx226_1
          replace p226 := eq_true p226
          replace q226 := eq_true q226
          go_wp2_with (first | ((with_reducible refine gate_callee (f := 65) rfl ?_); refine goesL_ (some 36) rfl rfl Try.func65 (by kernel_rfl) rfl #[.int .i64 ((rd_T121 l0_1 x3_2).f0), .int .i64 0, .int .i64 (wrap64 ((wrap64 (2 * (wrap64 ((wrap64 (1 + a0_0)) + x3_2)))) - 1))] rfl lmB ?_; (with_reducible refine (spec_l1In.calls ((rd_T121 l0_1 x3_2).f0) 0 (wrap64 ((wrap64 (2 * (wrap64 ((wrap64 (1 + a0_0)) + x3_2)))) - 1)) true _ A11.out).mono ?_); rintro e w' ⟨rfl, ⟨nd, rfl⟩⟩; refine ⟨_, rfl, ?_⟩; have p228 : 0 ≤ (x3_2 : Int) := oda; have q228 : x3_2 < (l0_1.length : Int) := oda; obtain ⟨ad228, e228, hx228_0, hx228_1⟩ := at_T121 HR0_1.out x3_2 p228 q228; obtain rfl : ad226 = ad228 := (by injection e228); replace hx228_0 := bct HB.out hx228_0; replace hx228_1 := bct HB.out hx228_1; replace p228 := eq_true p228; replace q228 := eq_true q228) | (go_at_call 65; (with_reducible refine (spec_l1In.calls ((rd_T121 l0_1 x3_2).f1) 0 (wrap64 ((wrap64 (2 * (wrap64 ((wrap64 (1 + a0_0)) + x3_2)))) - 1)) true _ A13.out).mono ?_); rintro e w' ⟨rfl, ⟨nd, rfl⟩⟩))
          go_roundg k2
          case measure => have := HJ1.out; have := HK2.out; omega
          case rel => exact ⟨(wrap64 (x3_2 + 1)), rsd, H', ⟨by have := HJ1.out; have := HK2.out; omega⟩, ⟨bvK BK224.out⟩, ⟨by repeat (first | (with_reducible first | exact HB.out | apply bwA | apply bwN | apply bwD | refine below_set ?_ GE224.out) | exact HB.out)⟩⟩
         ·replace c14 := Bool.eq_false_iff.mpr c14
          subst c14
          have H1 : (some false) = some r := by rw [if_neg (show ¬ (false = true) by decide)] at H; exact H
          clear H
          have H := H1
          clear H1
          obtain rfl := Option.some.inj H
          have hcz16_0 : wr.cell? ⟨gb224, 0, none⟩ = some (.int .i64 a0_0) := (blk_cell BK224.out 0).trans rfl
          have hcz16_1 : wr.cell? ⟨gb224, 1, none⟩ = some (.slice A0_1 l0_1.length c0_1) := (blk_cell BK224.out 1).trans rfl
          have hfz16_0 := blk_frozen BK224.out 0
          have hfz16_1 := blk_frozen BK224.out 1
          have p226 : 0 ≤ (x3_2 : Int) := oda
          have q226 : x3_2 < (l0_1.length : Int) := oda
          obtain ⟨ad226, e226, hx226_0, hx226_1⟩ := at_T121 HR0_1.out x3_2 p226 q226
          cases e226
          try replace hx226_0 := bct HB.out hx226_0
          try replace hx226_1 := bct HB.out hx226_1
          replace p226 := eq_true p226
          replace q226 := eq_true q226
          go_wp2_with (first | ((with_reducible refine gate_callee (f := 65) rfl ?_); refine goesL_ (some 36) rfl rfl Try.func65 (by kernel_rfl) rfl #[.int .i64 ((rd_T121 l0_1 x3_2).f0), .int .i64 0, .int .i64 (wrap64 ((wrap64 (2 * (wrap64 ((wrap64 (1 + a0_0)) + x3_2)))) - 1))] rfl lmB ?_; (with_reducible refine (spec_l1In.calls ((rd_T121 l0_1 x3_2).f0) 0 (wrap64 ((wrap64 (2 * (wrap64 ((wrap64 (1 + a0_0)) + x3_2)))) - 1)) true _ A11.out).mono ?_); rintro e w' ⟨rfl, ⟨nd, rfl⟩⟩; refine ⟨_, rfl, ?_⟩; have p228 : 0 ≤ (x3_2 : Int) := oda; have q228 : x3_2 < (l0_1.length : Int) := oda; obtain ⟨ad228, e228, hx228_0, hx228_1⟩ := at_T121 HR0_1.out x3_2 p228 q228; obtain rfl : ad226 = ad228 := (by injection e228); replace hx228_0 := bct HB.out hx228_0; replace hx228_1 := bct HB.out hx228_1; replace p228 := eq_true p228; replace q228 := eq_true q228) | (go_at_call 65; (with_reducible refine (spec_l1In.calls ((rd_T121 l0_1 x3_2).f1) 0 (wrap64 ((wrap64 (2 * (wrap64 ((wrap64 (1 + a0_0)) + x3_2)))) - 1)) false _ A13.out).mono ?_); rintro e w' ⟨rfl, ⟨nd, rfl⟩⟩))
          go_ret
          exact ⟨ers, by repeat (first | (with_reducible first | exact HB.out | apply bwA | apply bwN | apply bwD | refine below_set ?_ GE224.out) | exact HB.out)⟩
        ·replace c12 := Bool.eq_false_iff.mpr c12
         subst c12
         have H1 : (some false) = some r := by rw [if_neg (show ¬ (false = true) by decide)] at H; exact H
         clear H
         have H := H1
         clear H1
         obtain rfl := Option.some.inj H
         have hcz17_0 : wr.cell? ⟨gb224, 0, none⟩ = some (.int .i64 a0_0) := (blk_cell BK224.out 0).trans rfl
         have hcz17_1 : wr.cell? ⟨gb224, 1, none⟩ = some (.slice A0_1 l0_1.length c0_1) := (blk_cell BK224.out 1).trans rfl
         have hfz17_0 := blk_frozen BK224.out 0
         have hfz17_1 := blk_frozen BK224.out 1
         have p226 : 0 ≤ (x3_2 : Int) := oda
         have q226 : x3_2 < (l0_1.length : Int) := oda
         obtain ⟨ad226, e226, hx226_0, hx226_1⟩ := at_T121 HR0_1.out x3_2 p226 q226
         cases e226
         try replace hx226_0 := bct HB.out hx226_0
         try replace hx226_1 := bct HB.out hx226_1
         replace p226 := eq_true p226
         replace q226 := eq_true q226
         go_wp2_with (first | ((with_reducible refine gate_callee (f := 65) rfl ?_); refine goesL_ (some 36) rfl rfl Try.func65 (by kernel_rfl) rfl #[.int .i64 ((rd_T121 l0_1 x3_2).f0), .int .i64 0, .int .i64 (wrap64 ((wrap64 (2 * (wrap64 ((wrap64 (1 + a0_0)) + x3_2)))) - 1))] rfl lmB ?_; (with_reducible refine (spec_l1In.calls ((rd_T121 l0_1 x3_2).f0) 0 (wrap64 ((wrap64 (2 * (wrap64 ((wrap64 (1 + a0_0)) + x3_2)))) - 1)) false _ A11.out).mono ?_); rintro e w' ⟨rfl, ⟨nd, rfl⟩⟩; refine ⟨_, rfl, ?_⟩))
         go_ret
         exact ⟨ers, by repeat (first | (with_reducible first | exact HB.out | apply bwA | apply bwN | apply bwD | refine below_set ?_ GE224.out) | exact HB.out)⟩
       ·rw [if_neg c10] at H
        exact absurd H (by simp)
      ·rw [if_neg c9] at H
       have c9b0 : decide (x3_2 < (l0_1.length : Int)) = false := decide_eq_false c9
       clear c9
       obtain rfl := Option.some.inj H
       have hcz18_0 : wr.cell? ⟨gb224, 0, none⟩ = some (.int .i64 a0_0) := (blk_cell BK224.out 0).trans rfl
       have hcz18_1 : wr.cell? ⟨gb224, 1, none⟩ = some (.slice A0_1 l0_1.length c0_1) := (blk_cell BK224.out 1).trans rfl
       have hfz18_0 := blk_frozen BK224.out 0
       have hfz18_1 := blk_frozen BK224.out 1
       go_wp2
       go_ret
       exact ⟨ers, by repeat (first | (with_reducible first | exact HB.out | apply bwA | apply bwN | apply bwD | refine below_set ?_ GE224.out) | exact HB.out)⟩

/-! ### spec_l7Edge: function 82 -/
def spec_l7Edge.f (a0_0 : Int) (l0_1 : List (S121)) (a1 : Int) : Option (Bool) := (spec_l7Nodes.f a0_0 l0_1).bind fun t231 => ((spec_l1In.f a1 0 (wrap64 ((wrap64 (2 * t231)) - 1))).bind fun t232 => (some t232))
set_option maxHeartbeats 8000000 in
set_option maxRecDepth 100000 in
theorem spec_l7Edge.calls (a0_0 : Int) (A0_1 : Option Addr) (c0_1 : Nat) (l0_1 : List (S121)) (a1 : Int) (r : Bool) (w : World) (hr0_1 : Kd.C k121 w A0_1 l0_1.length l0_1) (hc0_1 : l0_1.length ≤ c0_1) (h : spec_l7Edge.f a0_0 l0_1 a1 = some r) :
  Calls Try.prog 82 #[.agg #[.int .i64 a0_0, .slice A0_1 l0_1.length c0_1], .int .i64 a1] w fun e w' => e = .returned (.bool r) ∧ Below w.heap.size w w' := by
 have hu45 := Try.underlying45
 have HR0_1 := Aside0.mk hr0_1
 have HC0_1 := Aside0.mk hc0_1
 clear hr0_1 hc0_1
 have HB := Aside0.mk (Below.refl w.heap.size w)
 have H : ((spec_l7Nodes.f a0_0 l0_1).bind fun t231 => ((spec_l1In.f a1 0 (wrap64 ((wrap64 (2 * t231)) - 1))).bind fun t232 => (some t232))) = some r := h
 clear h
 replace H := Option.bind_eq_some_iff.mp H
 obtain ⟨t231, A30, H⟩ := H
 replace H : ((spec_l1In.f a1 0 (wrap64 ((wrap64 (2 * t231)) - 1))).bind fun t232 => (some t232)) = some r := H
 have A3 := Aside0.mk A30
 clear A30
 replace H := Option.bind_eq_some_iff.mp H
 obtain ⟨t232, A40, H⟩ := H
 replace H : (some t232) = some r := H
 have A4 := Aside0.mk A40
 clear A40
 obtain rfl := Option.some.inj H
 go_enter Try.func82, Try.ntmps82
 go_wp2_with (first | ((with_reducible refine gate_dst (N := 2) rfl ?_); refine box_event ?hg (N := 2) ?hd (cs := #[.int .i64 a0_0, .slice A0_1 l0_1.length c0_1]) (t := 45) ?hr ?_; (case hd => rfl); (case hg => rfl); (case hr => first | (go_simp; done) | (go_simp; rfl)); intro gb230 hg w5 hbox hb; have n0_ := Aside0.mk (below_step (by repeat (first | (with_reducible first | exact HB.out | apply bwA | apply bwN | apply bwD) | exact HB.out)) hb); have n1_ := Aside0.mk (hbox); have n2_ := Aside0.mk ((by rw [hg]; exact (below_size (by repeat (first | (with_reducible first | exact HB.out | apply bwA | apply bwN | apply bwD) | exact HB.out))) : w.heap.size ≤ gb230)); have n3_ := Aside0.mk ((by rw [hg]; exact (below_size (by repeat (first | (with_reducible first | exact HB.out | apply bwA | apply bwN | apply bwD) | exact HB.out))) : w.heap.size ≤ gb230)); clear HB; have HB := n0_; have BK230 := n1_; have GW230 := n2_; have GE230 := n3_; clear n0_ n1_ n2_ n3_; clear hb hbox hg; have hcz6_0 : w5.cell? ⟨gb230, 0, none⟩ = some (.int .i64 a0_0) := (blk_cell BK230.out 0).trans rfl; have hcz6_1 : w5.cell? ⟨gb230, 1, none⟩ = some (.slice A0_1 l0_1.length c0_1) := (blk_cell BK230.out 1).trans rfl; have hfz6_0 := blk_frozen BK230.out 0; have hfz6_1 := blk_frozen BK230.out 1) | ((with_reducible refine gate_callee (f := 110) rfl ?_); refine goesL_ (some 7) rfl rfl Try.func110 (by kernel_rfl) rfl #[.agg #[.int .i64 a0_0, .slice A0_1 l0_1.length c0_1]] rfl lmB ?_; (with_reducible refine (spec_l7Nodes.calls a0_0 _ _ l0_1 t231 _ ?side1 ?side2 A3.out).mono ?_); (case side1 => repeat (first | exact (Kd.C_below HR0_1.out HB.out) | (with_reducible refine Kd.C_alloc ?_ _) | (with_reducible refine Kd.C_drewN ?_ _) | (with_reducible refine Kd.C_drew ?_))); (case side2 => exact HC0_1.out); rintro e w7 ⟨rfl, hb⟩; refine ⟨_, rfl, ?_⟩; have n0_ := Aside0.mk (blk_below (g := gb230) (o := .cells #[.int .i64 a0_0, .slice A0_1 l0_1.length c0_1] 45 (0, 0)) (bvK BK230.out) hb); have n1_ := Aside0.mk (below_step (by repeat (first | (with_reducible first | exact HB.out | apply bwA | apply bwN | apply bwD | refine below_set ?_ GE230.out) | exact HB.out)) hb); clear BK230; clear HB; have BK230 := n0_; have HB := n1_; clear n0_ n1_; (try clear hb); (try clear hb2); (try clear hk); (try clear hi)) | ((with_reducible refine gate_callee (f := 65) rfl ?_); refine goesL_ (some 10) rfl rfl Try.func65 (by kernel_rfl) rfl #[.int .i64 a1, .int .i64 0, .int .i64 (wrap64 ((wrap64 (2 * t231)) - 1))] rfl lmB ?_; (with_reducible refine (spec_l1In.calls a1 0 (wrap64 ((wrap64 (2 * t231)) - 1)) t232 _ A4.out).mono ?_); rintro e w' ⟨rfl, ⟨nd, rfl⟩⟩; refine ⟨_, rfl, ?_⟩))
 go_ret
 exact ⟨ers, by repeat (first | (with_reducible first | exact HB.out | apply bwA | apply bwN | apply bwD | refine below_set ?_ GE230.out) | exact HB.out)⟩

/-! ### spec_l7Of: function 83 -/
def spec_l7Of.f (l0 : List Int) (a1 : Int) : Option (Int) := if (Int.tmod a1 2) = 1 then (if 0 ≤ (wrap64 (Int.tdiv a1 2)) then (if (wrap64 (Int.tdiv a1 2)) < (l0.length : Int) then (some (wrap64 (1 - (rd l0 (wrap64 (Int.tdiv a1 2)))))) else (none)) else (none)) else (if 0 ≤ (wrap64 (Int.tdiv a1 2)) then (if (wrap64 (Int.tdiv a1 2)) < (l0.length : Int) then (some (rd l0 (wrap64 (Int.tdiv a1 2)))) else (none)) else (none))
set_option maxHeartbeats 8000000 in
set_option maxRecDepth 100000 in
theorem spec_l7Of.calls (A0 : Option Addr) (c0 : Nat) (l0 : List Int) (a1 : Int) (r : Int) (w : World) (hr0 : Kd.C (Kd.int .i64) w A0 l0.length l0) (hc0 : l0.length ≤ c0) (h : spec_l7Of.f l0 a1 = some r) :
  Calls Try.prog 83 #[.slice A0 l0.length c0, .int .i64 a1] w fun e w' => e = .returned (.int .i64 r) ∧ Drawn0 w w' := by
 have HR0 := Aside0.mk hr0
 have HC0 := Aside0.mk hc0
 clear hr0 hc0
 have H : (if (Int.tmod a1 2) = 1 then (if 0 ≤ (wrap64 (Int.tdiv a1 2)) then (if (wrap64 (Int.tdiv a1 2)) < (l0.length : Int) then (some (wrap64 (1 - (rd l0 (wrap64 (Int.tdiv a1 2)))))) else (none)) else (none)) else (if 0 ≤ (wrap64 (Int.tdiv a1 2)) then (if (wrap64 (Int.tdiv a1 2)) < (l0.length : Int) then (some (rd l0 (wrap64 (Int.tdiv a1 2)))) else (none)) else (none))) = some r := h
 clear h
 by_cases c3 : (Int.tmod a1 2) = 1
 ·rw [if_pos c3] at H
  have c3b0 : ((Int.tmod a1 2) == 1) = true := beq_iff_eq.mpr c3
  have c3b1 : ((Int.tmod a1 2) != 1) = false := bne_eq_false_iff_eq.mpr c3
  clear c3
  obtain ⟨ji4, hji4⟩ : ∃ j_ : Int, (wrap64 (Int.tdiv a1 2)) = j_ := ⟨_, rfl⟩
  replace H : (if 0 ≤ (ji4) then (if (ji4) < (l0.length : Int) then (some (wrap64 (1 - (rd l0 (ji4))))) else (none)) else (none)) = some r := by first | (rw [hji4] at H; exact H) | (simp only [hji4] at H ⊢; exact H)
  have hji4w : (IntKind.i64.wrap (Int.tdiv a1 2)) = ji4 := (i64_w _).trans hji4
  by_cases c5 : 0 ≤ (ji4)
  ·rw [if_pos c5] at H
   have c5b0 : decide (0 ≤ (ji4)) = true := decide_eq_true c5
   clear c5
   by_cases c6 : (ji4) < (l0.length : Int)
   ·rw [if_pos c6] at H
    have c6b0 : decide ((ji4) < (l0.length : Int)) = true := decide_eq_true c6
    clear c6
    obtain rfl := Option.some.inj H
    have p233 : 0 ≤ ((ji4) : Int) := oda
    have q233 : (ji4) < (l0.length : Int) := oda
    obtain ⟨ad233, e233, hx233_0⟩ := Kd.at_int HR0.out (ji4) p233 q233
    cases e233
    replace p233 := eq_true p233
    replace q233 := eq_true q233
    go_enter Try.func83, Try.ntmps83
    go_wp2
    go_ret
    exact ⟨by first | rfl | (simp; done) | (simp only [← hji4] <;> (first | rfl | simp)) | (simp [*]; done), by repeat (first | exact Drawn0.refl _ | apply Drawn0.step)⟩
   ·rw [if_neg c6] at H
    exact absurd H (by simp)
  ·rw [if_neg c5] at H
   exact absurd H (by simp)
 ·rw [if_neg c3] at H
  have c3b0 : ((Int.tmod a1 2) == 1) = false := beq_eq_false_iff_ne.mpr c3
  have c3b1 : ((Int.tmod a1 2) != 1) = true := bne_iff_ne.mpr c3
  obtain ⟨ji7, hji7⟩ : ∃ j_ : Int, (wrap64 (Int.tdiv a1 2)) = j_ := ⟨_, rfl⟩
  replace H : (if 0 ≤ (ji7) then (if (ji7) < (l0.length : Int) then (some (rd l0 (ji7))) else (none)) else (none)) = some r := by first | (rw [hji7] at H; exact H) | (simp only [hji7] at H ⊢; exact H)
  have hji7w : (IntKind.i64.wrap (Int.tdiv a1 2)) = ji7 := (i64_w _).trans hji7
  by_cases c8 : 0 ≤ (ji7)
  ·rw [if_pos c8] at H
   have c8b0 : decide (0 ≤ (ji7)) = true := decide_eq_true c8
   clear c8
   by_cases c9 : (ji7) < (l0.length : Int)
   ·rw [if_pos c9] at H
    have c9b0 : decide ((ji7) < (l0.length : Int)) = true := decide_eq_true c9
    clear c9
    obtain rfl := Option.some.inj H
    have p234 : 0 ≤ ((ji7) : Int) := oda
    have q234 : (ji7) < (l0.length : Int) := oda
    obtain ⟨ad234, e234, hx234_0⟩ := Kd.at_int HR0.out (ji7) p234 q234
    cases e234
    replace p234 := eq_true p234
    replace q234 := eq_true q234
    go_enter Try.func83, Try.ntmps83
    go_wp2
    go_ret
    exact ⟨by first | rfl | (simp; done) | (simp only [← hji7] <;> (first | rfl | simp)) | (simp [*]; done), by repeat (first | exact Drawn0.refl _ | apply Drawn0.step)⟩
   ·rw [if_neg c9] at H
    exact absurd H (by simp)
  ·rw [if_neg c8] at H
   exact absurd H (by simp)

end Go.Proofs.Ytpcompnmadpljaa.QFnDiagramOf
