-- Written by a program of this session (mk.py). Lean checks it.
import Derived.Test.YtpcckoljocpchaaQFnReorderBackx0
import Derived.Test.YtpcckoljocpchaaQFnReorderBackx2
import Derived.Test.YtpcckoljocpchaaQFnReorderBackx5
import Derived.Test.YtpcckoljocpchaaQFnReorderBackx6
namespace Go.Proofs.Ytpcckoljocpchaa.QFnReorderBack
open Go.RowKit Go.Proofs.YtpcckoljocpchaaW.PrintWords Go.Proofs.YtpcckoljocpchaaW.PrintLast Go.Proofs.YtpcckoljocpchaaW.PrintMore
attribute [local go_sem] max2_int min2_int max_two min_two max_three min_three max_four min_four   -- for this text's walks alone
set_option linter.unusedVariables false
set_option linter.unusedSimpArgs false

/-! ### impl_DiagramValid: function 44 -/
def impl_DiagramValid.bad (a0 : Int) (l : List S56) (i : Nat) (x : S56) : Option Bool :=
 (impl_in.f x.f0 0 (wrap64 (a0 - 1))).bind fun t1 => if t1 = false then some true else
 (impl_in.f x.f1 0 (wrap64 ((i : Int) + 1))).bind fun t2 => if t2 = false then some true else
 (impl_in.f x.f2 0 (wrap64 ((i : Int) + 1))).bind fun t3 => if t3 = false then some true else
 if x.f1 = x.f2 then some true else
 (impl_Diagram_varAt.f a0 l x.f1).bind fun t4 => if t4 ≤ x.f0 then some true else
 (impl_Diagram_varAt.f a0 l x.f2).bind fun t5 => if t5 ≤ x.f0 then some true else
 if okF x then some (decide (x ∈ l.take i)) else none
def impl_DiagramValid.l0 (a0 : Int) (l : List S56) : Nat → Nat → Option Bool
 | 0, _ => some true
 | d + 1, i => (impl_DiagramValid.bad a0 l i (rd_T56 l (i : Int))).bind fun b => if b = true then some false else impl_DiagramValid.l0 a0 l d (i + 1)
def impl_DiagramValid.f (a0 : Int) (l : List S56) : Option Bool := (impl_in.f a0 0 12).bind fun t => if t = false then some false else if (l.length : Int) > 2000 then some false else impl_DiagramValid.l0 a0 l l.length 0
def impl_DiagramValid.S (a0 : Int) (A : Option Addr) (l : List S56) (c g0 gb b i : Nat) (x : S56) (w w' : World) : Prop :=
 w'.heap[g0]? = some (.cells #[.int .i64 a0, .slice A l.length c] 48 (0, 0)) ∧ w'.heap[gb]? = some (.cells #[.int .i64 x.f0, .int .i64 x.f1, .int .i64 x.f2] 56 (0, 0)) ∧ Mp.Is ekF okF Value.bool w' b (fun y => if y ∈ l.take i then some true else none) ∧ Below w.heap.size w w'
section
variable {a0 : Int} {A : Option Addr} {l : List S56} {c g0 gb b i : Nat} {x : S56} {w w1 w2 : World}
theorem impl_DiagramValid.S.step (h : impl_DiagramValid.S a0 A l c g0 gb b i x w w1) (hb : Below w1.heap.size w1 w2) : impl_DiagramValid.S a0 A l c g0 gb b i x w w2 := ⟨blk_below h.1 hb, blk_below h.2.1 hb, h.2.2.1.below hb, below_step h.2.2.2 hb⟩
theorem impl_DiagramValid.S.d0 (h : impl_DiagramValid.S a0 A l c g0 gb b i x w w1) : w1.cell? ⟨g0, 0, none⟩ = some (.int .i64 a0) := (blk_cell h.1 0).trans rfl
theorem impl_DiagramValid.S.d1 (h : impl_DiagramValid.S a0 A l c g0 gb b i x w w1) : w1.cell? ⟨g0, 1, none⟩ = some (.slice A l.length c) := (blk_cell h.1 1).trans rfl
theorem impl_DiagramValid.S.x0 (h : impl_DiagramValid.S a0 A l c g0 gb b i x w w1) : w1.cell? ⟨gb, 0, none⟩ = some (.int .i64 x.f0) := (blk_cell h.2.1 0).trans rfl
theorem impl_DiagramValid.S.x1 (h : impl_DiagramValid.S a0 A l c g0 gb b i x w w1) : w1.cell? ⟨gb, 1, none⟩ = some (.int .i64 x.f1) := (blk_cell h.2.1 1).trans rfl
theorem impl_DiagramValid.S.x2 (h : impl_DiagramValid.S a0 A l c g0 gb b i x w w1) : w1.cell? ⟨gb, 2, none⟩ = some (.int .i64 x.f2) := (blk_cell h.2.1 2).trans rfl
end
theorem zero_bool : ∀ w : World, (zeroValue 4).run Try.prog w = .ok (.bool false) w := fun w => by
 have h : (Try.prog.info? 4).map (fun i => (i.zero, i.size, i.bytes)) = some (some (.bool false), 1, 1) := by kernel_rfl
 unfold zeroValue typeInfo
 obtain ⟨i, hi, hz⟩ := Option.map_eq_some_iff.1 h
 simp only [Prod.mk.injEq] at hz
 simp [hi, hz.1]
set_option maxHeartbeats 8000000 in
set_option maxRecDepth 100000 in
theorem impl_DiagramValid.calls (a0 : Int) (A : Option Addr) (c : Nat) (l : List S56) (r : Bool) (w : World) (hr : Kd.C k56 w A l.length l) (hc : l.length ≤ c) (h : impl_DiagramValid.f a0 l = some r) :
  Calls Try.prog 44 #[.agg #[.int .i64 a0, .slice A l.length c]] w fun e w' => e = .returned (.bool r) ∧ Below w.heap.size w w' := by
 have hu25 := Try.underlying48
 have hu71 := Try.underlying56
 have HR := Aside0.mk hr
 have HC := Aside0.mk hc
 unfold impl_DiagramValid.f at h
 obtain ⟨t, h1, h2⟩ := Option.bind_eq_some_iff.mp h
 have H1 := Aside0.mk h1
 clear hr hc h h1
 cases t with
 | false =>
  rw [if_pos rfl] at h2
  obtain rfl := Option.some.inj h2
  clear h2
  go_enter Try.func44, Try.ntmps44
  go_wp2_with (first | ((with_reducible refine gate_dst (N := 1) rfl ?_); refine box_event ?hg (N := 1) ?hd (cs := #[.int .i64 a0, .slice A l.length c]) (t := 48) ?hr ?_; (case hd => rfl); (case hg => rfl); (case hr => first | (go_simp; done) | (go_simp; rfl)); intro g0 hg0 w3 hbox hb; have HB3 := Aside0.mk hb; have hz0 : w3.cell? ⟨g0, 0, none⟩ = some (.int .i64 a0) := (blk_cell hbox 0).trans rfl; have hz1 : w3.cell? ⟨g0, 1, none⟩ = some (.slice A l.length c) := (blk_cell hbox 1).trans rfl; clear hg0 hbox hb) | (go_at_call 73; (with_reducible refine (impl_in.calls a0 0 12 false _ H1.out).mono ?_); rintro e w4 ⟨rfl, hd⟩; have HB4 := Aside0.mk (below_step HB3.out hd.below); clear hd))
  go_ret
  exact ⟨rfl, HB4.out⟩
 | true =>
  rw [if_neg (by decide)] at h2
  by_cases c1 : (l.length : Int) > 2000
  ·rw [if_pos c1] at h2
   obtain rfl := Option.some.inj h2
   have c1b : decide ((2000 : Int) < (l.length : Int)) = true := decide_eq_true c1
   clear h2 c1
   go_enter Try.func44, Try.ntmps44
   go_wp2_with (first | ((with_reducible refine gate_dst (N := 1) rfl ?_); refine box_event ?hg (N := 1) ?hd (cs := #[.int .i64 a0, .slice A l.length c]) (t := 48) ?hr ?_; (case hd => rfl); (case hg => rfl); (case hr => first | (go_simp; done) | (go_simp; rfl)); intro g0 hg0 w3 hbox hb; have BX3 := Aside0.mk hbox; have HB3 := Aside0.mk hb; have hz0 : w3.cell? ⟨g0, 0, none⟩ = some (.int .i64 a0) := (blk_cell hbox 0).trans rfl; clear hg0 hbox hb) | (go_at_call 73; (with_reducible refine (impl_in.calls a0 0 12 true _ H1.out).mono ?_); rintro e w4 ⟨rfl, hd⟩; have HB4 := Aside0.mk (below_step HB3.out hd.below); have hy1 : w4.cell? ⟨g0, 1, none⟩ = some (.slice A l.length c) := (blk_cell (blk_below BX3.out hd.below) 1).trans rfl; clear hd))
   go_ret
   exact ⟨rfl, HB4.out⟩
  ·rw [if_neg c1] at h2
   have c1b : decide ((2000 : Int) < (l.length : Int)) = false := decide_eq_false c1
   have CL := Aside0.mk (show l.length ≤ 2000 by omega)
   have H2 := Aside0.mk h2
   clear h2 c1
   go_enter Try.func44, Try.ntmps44
   have hmm := @run_makeMap Try.prog
   go_wp2_with (first | ((with_reducible refine gate_dst (N := 1) rfl ?_); refine box_event ?hg (N := 1) ?hd (cs := #[.int .i64 a0, .slice A l.length c]) (t := 48) ?hr ?_; (case hd => rfl); (case hg => rfl); (case hr => first | (go_simp; done) | (go_simp; rfl)); intro g0 hg0 w3 hbox hb; have BX3 := Aside0.mk hbox; have HB3 := Aside0.mk hb; have hz0 : w3.cell? ⟨g0, 0, none⟩ = some (.int .i64 a0) := (blk_cell hbox 0).trans rfl; clear hg0 hbox hb) | (go_at_call 73; (with_reducible refine (impl_in.calls a0 0 12 true _ H1.out).mono ?_); rintro e w4 ⟨rfl, hd⟩; have HB4 := Aside0.mk (below_step HB3.out hd.below); have BX4 := Aside0.mk (blk_below BX3.out hd.below); have hy1 : w4.cell? ⟨g0, 1, none⟩ = some (.slice A l.length c) := (blk_cell BX4.out 1).trans rfl; clear hd) | ((with_reducible refine gate_dst (N := 16) rfl ?_); refine Mp.made_event rfl (N := 16) rfl 109 rfl ekF okF Value.bool ?_; intro b hbk w5 hm5 hb5; have HB5 := Aside0.mk (below_step HB4.out hb5); have BX5 := Aside0.mk (blk_below BX4.out hb5); have HBK := Aside0.mk (show w.heap.size ≤ b by rw [hbk]; exact HB4.out.size); have M5 := Aside0.mk hm5; have hx1 : w5.cell? ⟨g0, 1, none⟩ = some (.slice A l.length c) := (blk_cell BX5.out 1).trans rfl; clear hm5 hb5 hbk))
   clear hx1 hmm
   go_loopg [20] l.length (fun gg s20 wr => ∃ (i : Nat), s20 = .int .i64 (i : Int) ∧ Aside0 (i + gg = l.length) ∧ Aside0 (impl_DiagramValid.l0 a0 l gg i = some r) ∧ Aside0 (wr.heap[g0]? = some (.cells #[.int .i64 a0, .slice A l.length c] 48 (0, 0))) ∧ Aside0 (Mp.Is ekF okF Value.bool wr b (fun y => if y ∈ l.take i then some true else none)) ∧ Aside0 (Below w.heap.size w wr))
   case atStart => exact ⟨0, rfl, ⟨by omega⟩, H2, BX5, ⟨by simpa using M5.out⟩, HB5⟩
   case round =>
    clear BX3 BX4 BX5 HB3 HB4 HB5 M5 H2
    obtain ⟨i, rfl, HI, HL, BX, M, HB⟩ := hrel
    by_cases c2 : i < l.length
    ·obtain ⟨k1, rfl⟩ : ∃ k1, gk = k1 + 1 := ⟨gk - 1, by have := HI.out; omega⟩
     have c2a : (i : Int) < (l.length : Int) := by omega
     have c2b : decide ((i : Int) < (l.length : Int)) = true := decide_eq_true c2a
     have c2c : (0 : Int) ≤ (i : Int) := by omega
     have c2d : decide ((0 : Int) ≤ (i : Int)) = true := decide_eq_true c2c
     obtain ⟨ad, rfl, hx0, hx1, hx2⟩ := at_T56 HR.out (i : Int) c2c c2a
     have hla := HL.out
     simp only [impl_DiagramValid.l0] at hla
     have hget : l[i]? = some (rd_T56 l (i : Int)) := by unfold rd_T56; rw [List.getD_eq_getElem?_getD, Int.toNat_natCast, List.getElem?_eq_getElem c2]; rfl
     obtain ⟨x, hx⟩ : ∃ x, rd_T56 l (i : Int) = x := ⟨_, rfl⟩
     rw [hx] at hx0 hx1 hx2 hla hget
     simp only [Int.toNat_natCast] at hx0 hx1 hx2
     have HX := Aside0.mk hget
     obtain ⟨tb, hbad, hla⟩ := Option.bind_eq_some_iff.mp hla
     have HBAD := Aside0.mk hbad
     have HLA := Aside0.mk hla
     replace hx0 := bct HB.out hx0
     replace hx1 := bct HB.out hx1
     replace hx2 := bct HB.out hx2
     have hw2 : wrap64 ((i : Int) + 1) = (i : Int) + 1 := by have := CL.out; unfold wrap64; omega
     have HW2 := Aside0.mk hw2
     clear hw2
     clear hx hbad hla hget HL
     go_wp2_with ((with_reducible refine gate_dst (N := 5) rfl ?_); refine box_event ?hg (N := 5) ?hd (cs := #[.int .i64 0, .int .i64 0, .int .i64 0]) (t := 56) ?hr ?_; (case hd => rfl); (case hg => rfl); (case hr => first | (go_simp; done) | (go_simp; rfl)); intro gb hgb w7 hbox hb; have BX0 := Aside0.mk hbox; have HB7 := Aside0.mk hb; have hz0 : w7.cell? ⟨gb, 0, none⟩ = some (.int .i64 0) := (blk_cell BX0.out 0).trans rfl; have hz1 : w7.cell? ⟨gb, 1, none⟩ = some (.int .i64 0) := (blk_cell BX0.out 1).trans rfl; have hz2 : w7.cell? ⟨gb, 2, none⟩ = some (.int .i64 0) := (blk_cell BX0.out 2).trans rfl; have hy0 := blk_frozen BX0.out 0; have hy1 := blk_frozen BX0.out 1; have hy2 := blk_frozen BX0.out 2; have HGB := Aside0.mk hgb; clear hgb hbox hb)
     have n0 : Aside0 (Below wr.heap.size wr (((w7.setCell ⟨gb, 0, none⟩ (.int .i64 x.f0)).setCell ⟨gb, 1, none⟩ (.int .i64 x.f1)).setCell ⟨gb, 2, none⟩ (.int .i64 x.f2))) := ⟨below_set (below_set (below_set HB7.out (Nat.le_of_eq HGB.out.symm)) (Nat.le_of_eq HGB.out.symm)) (Nat.le_of_eq HGB.out.symm)⟩
     have n1 : Aside0 ((((w7.setCell ⟨gb, 0, none⟩ (.int .i64 x.f0)).setCell ⟨gb, 1, none⟩ (.int .i64 x.f1)).setCell ⟨gb, 2, none⟩ (.int .i64 x.f2)).heap[gb]? = some (.cells #[.int .i64 x.f0, .int .i64 x.f1, .int .i64 x.f2] 56 (0, 0))) := ⟨blk_put (blk_put (blk_put BX0.out 0 _ rfl) 1 _ rfl) 2 _ rfl⟩
     generalize (((w7.setCell ⟨gb, 0, none⟩ (.int .i64 x.f0)).setCell ⟨gb, 1, none⟩ (.int .i64 x.f1)).setCell ⟨gb, 2, none⟩ (.int .i64 x.f2)) = w8 at n0 n1 ⊢
     clear hz0 hz1 hz2 hy0 hy1 hy2 BX0 HB7 hx0 hx1 hx2
     have hS : impl_DiagramValid.S a0 (some ad) l c g0 gb b i x w w8 := ⟨blk_below BX.out n0.out, n1.out, M.out.below n0.out, below_step HB.out n0.out⟩
     clear n0 n1 BX M HB HGB
     refine start_ (n := 53) (S := impl_DiagramValid.S a0 (some ad) l c g0 gb b i x w) (ds := []) (Pt.bm 53 0) (by kernel_rfl) rfl rfl (hS.step (below_drew (Below.refl _ _))) (fun hHeld => ?_)
     clear hS
     generalize w8.drew = w9 at hHeld ⊢
     have hq := HBAD.out
     unfold impl_DiagramValid.bad at hq
     clear HBAD
     obtain ⟨t1, hq1, hq⟩ := Option.bind_eq_some_iff.mp hq
     have T1 := Aside0.mk hq1
     clear hq1
     cases t1 with
     | false =>
      rw [if_pos rfl] at hq
      obtain rfl := Option.some.inj hq
      clear hq
      refine Pt.pu 0 (some 25) (Pt.bm 53 1) (by kernel_rfl) ?_
      refine Pt.tk 1 (some 26) (Pt.bm 53 3) rfl rfl (by kernel_rfl) hHeld (Or.inl ⟨by rfl, by rintro w' sS; have s0 := sS.d0; have s1 := sS.d1; have s2 := sS.x0; have s3 := sS.x1; have s4 := sS.x2; go_simp; with_reducible rfl⟩) ?_
      refine Pt.pu 2 (some 27) (Pt.bm 53 7) (by kernel_rfl) ?_
      refine Pt.tk 3 (some 28) (Pt.bm 53 15) rfl rfl (by kernel_rfl) hHeld (Or.inl ⟨by rfl, by rintro w' sS; have s0 := sS.d0; have s1 := sS.d1; have s2 := sS.x0; have s3 := sS.x1; have s4 := sS.x2; go_simp; with_reducible rfl⟩) ?_
      refine Pt.pu 4 (some 29) (Pt.bm 53 31) (by kernel_rfl) ?_
      refine one_ (i := 5) (N := some 30) (Pt.bm 53 63) rfl rfl (by kernel_rfl) (by decide) (fun K hK => ?_)
      refine goes_ Try.func73 (by kernel_rfl) rfl #[.int .i64 x.f0, .int .i64 0, .int .i64 (wrap64 (a0 - 1))] (by rfl) rfl rfl (by (try simp only [List.map_toArray, List.map_cons, List.map_nil]); first | done | rfl) ?_
      refine (impl_in.calls x.f0 0 (wrap64 (a0 - 1)) false _ T1.out).mono ?_
      rintro e w10 ⟨rfl, hd⟩
      refine ⟨_, rfl, ?_⟩
      refine hK.out _ _ (hHeld.step hd.below) (fun hHeld => ?_)
      clear hK K hd
      refine norm_ (a' := ?_) ?_ ?_
      rotate_left
      ·show Act.put _ (some 30) _ = _
       simp only [Act.put, List.setIfInBounds_toArray, List.set_cons_zero, List.set_cons_succ, i64_w, i32_w]
       rfl
      refine Pt.pu 6 (some 31) (Pt.bm 53 127) (by kernel_rfl) ?_
      refine Pt.pu 7 (some 32) (Pt.bm 53 255) (by kernel_rfl) ?_
      refine Pt.pn 8 (some 33) (Pt.bm 53 511) (by kernel_rfl) ?_
      refine Pt.pn 9 (some 34) (Pt.bm 53 1023) (by kernel_rfl) ?_
      refine Pt.pn 10 (some 35) (Pt.bm 53 2047) (by kernel_rfl) ?_
      refine Pt.pn 11 (some 36) (Pt.bm 53 4095) (by kernel_rfl) ?_
      refine Pt.pn 12 (some 37) (Pt.bm 53 8191) (by kernel_rfl) ?_
      refine Pt.pn 13 (some 38) (Pt.bm 53 16383) (by kernel_rfl) ?_
      refine Pt.pu 14 (some 39) (Pt.bm 53 32767) (by kernel_rfl) ?_
      refine Pt.pu 15 (some 40) (Pt.bm 53 65535) (by kernel_rfl) ?_
      refine Pt.pn 16 (some 41) (Pt.bm 53 131071) (by kernel_rfl) ?_
      refine Pt.pn 17 (some 42) (Pt.bm 53 262143) (by kernel_rfl) ?_
      refine Pt.pn 18 (some 43) (Pt.bm 53 524287) (by kernel_rfl) ?_
      refine Pt.pn 19 (some 44) (Pt.bm 53 1048575) (by kernel_rfl) ?_
      refine Pt.pn 20 (some 45) (Pt.bm 53 2097151) (by kernel_rfl) ?_
      refine Pt.pn 21 (some 46) (Pt.bm 53 4194303) (by kernel_rfl) ?_
      refine Pt.pu 22 (some 47) (Pt.bm 53 8388607) (by kernel_rfl) ?_
      refine Pt.pu 23 (some 48) (Pt.bm 53 16777215) (by kernel_rfl) ?_
      refine Pt.pn 24 (some 49) (Pt.bm 53 33554431) (by kernel_rfl) ?_
      refine Pt.pn 25 (some 50) (Pt.bm 53 67108863) (by kernel_rfl) ?_
      refine Pt.pn 26 (some 51) (Pt.bm 53 134217727) (by kernel_rfl) ?_
      refine Pt.pn 27 (some 52) (Pt.bm 53 268435455) (by kernel_rfl) ?_
      refine Pt.pn 28 (some 53) (Pt.bm 53 536870911) (by kernel_rfl) ?_
      refine Pt.pu 29 (some 54) (Pt.bm 53 1073741823) (by kernel_rfl) ?_
      refine Pt.pu 30 (some 55) (Pt.bm 53 2147483647) (by kernel_rfl) ?_
      refine Pt.pn 31 (some 56) (Pt.bm 53 4294967295) (by kernel_rfl) ?_
      refine Pt.pn 32 (some 57) (Pt.bm 53 8589934591) (by kernel_rfl) ?_
      refine Pt.pn 33 (some 58) (Pt.bm 53 17179869183) (by kernel_rfl) ?_
      refine Pt.pn 34 (some 59) (Pt.bm 53 34359738367) (by kernel_rfl) ?_
      refine Pt.pn 35 (some 60) (Pt.bm 53 68719476735) (by kernel_rfl) ?_
      refine Pt.pn 36 (some 61) (Pt.bm 53 137438953471) (by kernel_rfl) ?_
      refine Pt.pn 37 (some 62) (Pt.bm 53 274877906943) (by kernel_rfl) ?_
      refine Pt.pu 38 (some 63) (Pt.bm 53 549755813887) (by kernel_rfl) ?_
      refine Pt.pu 39 (some 64) (Pt.bm 53 1099511627775) (by kernel_rfl) ?_
      refine Pt.pn 40 (some 65) (Pt.bm 53 2199023255551) (by kernel_rfl) ?_
      refine Pt.pn 41 (some 66) (Pt.bm 53 4398046511103) (by kernel_rfl) ?_
      refine Pt.pn 42 (some 67) (Pt.bm 53 8796093022207) (by kernel_rfl) ?_
      refine Pt.pn 43 (some 68) (Pt.bm 53 17592186044415) (by kernel_rfl) ?_
      refine Pt.pn 44 (some 69) (Pt.bm 53 35184372088831) (by kernel_rfl) ?_
      refine Pt.pn 45 (some 70) (Pt.bm 53 70368744177663) (by kernel_rfl) ?_
      refine Pt.pn 46 (some 71) (Pt.bm 53 140737488355327) (by kernel_rfl) ?_
      refine Pt.pu 47 (some 72) (Pt.bm 53 281474976710655) (by kernel_rfl) ?_
      refine Pt.pu 48 (some 73) (Pt.bm 53 562949953421311) (by kernel_rfl) ?_
      refine Pt.pn 49 (some 74) (Pt.bm 53 1125899906842623) (by kernel_rfl) ?_
      refine Pt.pn 50 (some 75) (Pt.bm 53 2251799813685247) (by kernel_rfl) ?_
      refine Pt.pn 51 (some 76) (Pt.bm 53 4503599627370495) (by kernel_rfl) ?_
      refine Pt.pu 52 (some 77) (Pt.bm 53 9007199254740991) (by kernel_rfl) ?_
      refine done_ (by kernel_rfl) ?_
      have hla := HLA.out
      rw [if_pos rfl] at hla
      obtain rfl := Option.some.inj hla
      have HBx := Aside0.mk hHeld.2.2.2
      clear hHeld
      go_wp2
      go_ret
      exact ⟨rfl, HBx.out⟩
     | true =>
      rw [if_neg (by decide)] at hq
      refine Pt.pu 0 (some 25) (Pt.bm 53 1) (by kernel_rfl) ?_
      refine Pt.tk 1 (some 26) (Pt.bm 53 3) rfl rfl (by kernel_rfl) hHeld (Or.inl ⟨by rfl, by rintro w' sS; have s0 := sS.d0; have s1 := sS.d1; have s2 := sS.x0; have s3 := sS.x1; have s4 := sS.x2; go_simp; with_reducible rfl⟩) ?_
      refine Pt.pu 2 (some 27) (Pt.bm 53 7) (by kernel_rfl) ?_
      refine Pt.tk 3 (some 28) (Pt.bm 53 15) rfl rfl (by kernel_rfl) hHeld (Or.inl ⟨by rfl, by rintro w' sS; have s0 := sS.d0; have s1 := sS.d1; have s2 := sS.x0; have s3 := sS.x1; have s4 := sS.x2; go_simp; with_reducible rfl⟩) ?_
      refine Pt.pu 4 (some 29) (Pt.bm 53 31) (by kernel_rfl) ?_
      refine one_ (i := 5) (N := some 30) (Pt.bm 53 63) rfl rfl (by kernel_rfl) (by decide) (fun K hK => ?_)
      refine goes_ Try.func73 (by kernel_rfl) rfl #[.int .i64 x.f0, .int .i64 0, .int .i64 (wrap64 (a0 - 1))] (by rfl) rfl rfl (by (try simp only [List.map_toArray, List.map_cons, List.map_nil]); first | done | rfl) ?_
      refine (impl_in.calls x.f0 0 (wrap64 (a0 - 1)) true _ T1.out).mono ?_
      rintro e w10 ⟨rfl, hd⟩
      refine ⟨_, rfl, ?_⟩
      refine hK.out _ _ (hHeld.step hd.below) (fun hHeld => ?_)
      clear hK K hd
      refine norm_ (a' := ?_) ?_ ?_
      rotate_left
      ·show Act.put _ (some 30) _ = _
       simp only [Act.put, List.setIfInBounds_toArray, List.set_cons_zero, List.set_cons_succ, i64_w, i32_w]
       rfl
      refine Pt.pu 6 (some 31) (Pt.bm 53 127) (by kernel_rfl) ?_
      refine Pt.pu 7 (some 32) (Pt.bm 53 255) (by kernel_rfl) ?_
      obtain ⟨t2, hq2, hq⟩ := Option.bind_eq_some_iff.mp hq
      have T2 := Aside0.mk hq2
      clear hq2
      cases t2 with
      | false =>
       rw [if_pos rfl] at hq
       obtain rfl := Option.some.inj hq
       clear hq
       refine Pt.pu 8 (some 33) (Pt.bm 53 511) (by kernel_rfl) ?_
       refine Pt.tk 9 (some 34) (Pt.bm 53 1023) rfl rfl (by kernel_rfl) hHeld (Or.inl ⟨by rfl, by rintro w' sS; have s0 := sS.d0; have s1 := sS.d1; have s2 := sS.x0; have s3 := sS.x1; have s4 := sS.x2; go_simp; with_reducible rfl⟩) ?_
       refine Pt.pu 10 (some 35) (Pt.bm 53 2047) (by kernel_rfl) ?_
       refine Pt.pu 11 (some 36) (Pt.bm 53 4095) (by kernel_rfl) ?_
       refine one_ (i := 12) (N := some 37) (Pt.bm 53 8191) rfl rfl (by kernel_rfl) (by decide) (fun K hK => ?_)
       refine goes_ Try.func73 (by kernel_rfl) rfl #[.int .i64 x.f1, .int .i64 0, .int .i64 (wrap64 ((i : Int) + 1))] (by rfl) rfl rfl (by (try simp only [List.map_toArray, List.map_cons, List.map_nil]); first | done | rfl) ?_
       refine (impl_in.calls x.f1 0 (wrap64 ((i : Int) + 1)) false _ T2.out).mono ?_
       rintro e w11 ⟨rfl, hd⟩
       refine ⟨_, rfl, ?_⟩
       refine hK.out _ _ (hHeld.step hd.below) (fun hHeld => ?_)
       clear hK K hd
       refine norm_ (a' := ?_) ?_ ?_
       rotate_left
       ·show Act.put _ (some 37) _ = _
        simp only [Act.put, List.setIfInBounds_toArray, List.set_cons_zero, List.set_cons_succ, i64_w, i32_w]
        rfl
       refine Pt.pu 13 (some 38) (Pt.bm 53 16383) (by kernel_rfl) ?_
       refine Pt.pu 14 (some 39) (Pt.bm 53 32767) (by kernel_rfl) ?_
       refine Pt.pu 15 (some 40) (Pt.bm 53 65535) (by kernel_rfl) ?_
       refine Pt.pn 16 (some 41) (Pt.bm 53 131071) (by kernel_rfl) ?_
       refine Pt.pn 17 (some 42) (Pt.bm 53 262143) (by kernel_rfl) ?_
       refine Pt.pn 18 (some 43) (Pt.bm 53 524287) (by kernel_rfl) ?_
       refine Pt.pn 19 (some 44) (Pt.bm 53 1048575) (by kernel_rfl) ?_
       refine Pt.pn 20 (some 45) (Pt.bm 53 2097151) (by kernel_rfl) ?_
       refine Pt.pn 21 (some 46) (Pt.bm 53 4194303) (by kernel_rfl) ?_
       refine Pt.pu 22 (some 47) (Pt.bm 53 8388607) (by kernel_rfl) ?_
       refine Pt.pu 23 (some 48) (Pt.bm 53 16777215) (by kernel_rfl) ?_
       refine Pt.pn 24 (some 49) (Pt.bm 53 33554431) (by kernel_rfl) ?_
       refine Pt.pn 25 (some 50) (Pt.bm 53 67108863) (by kernel_rfl) ?_
       refine Pt.pn 26 (some 51) (Pt.bm 53 134217727) (by kernel_rfl) ?_
       refine Pt.pn 27 (some 52) (Pt.bm 53 268435455) (by kernel_rfl) ?_
       refine Pt.pn 28 (some 53) (Pt.bm 53 536870911) (by kernel_rfl) ?_
       refine Pt.pu 29 (some 54) (Pt.bm 53 1073741823) (by kernel_rfl) ?_
       refine Pt.pu 30 (some 55) (Pt.bm 53 2147483647) (by kernel_rfl) ?_
       refine Pt.pn 31 (some 56) (Pt.bm 53 4294967295) (by kernel_rfl) ?_
       refine Pt.pn 32 (some 57) (Pt.bm 53 8589934591) (by kernel_rfl) ?_
       refine Pt.pn 33 (some 58) (Pt.bm 53 17179869183) (by kernel_rfl) ?_
       refine Pt.pn 34 (some 59) (Pt.bm 53 34359738367) (by kernel_rfl) ?_
       refine Pt.pn 35 (some 60) (Pt.bm 53 68719476735) (by kernel_rfl) ?_
       refine Pt.pn 36 (some 61) (Pt.bm 53 137438953471) (by kernel_rfl) ?_
       refine Pt.pn 37 (some 62) (Pt.bm 53 274877906943) (by kernel_rfl) ?_
       refine Pt.pu 38 (some 63) (Pt.bm 53 549755813887) (by kernel_rfl) ?_
       refine Pt.pu 39 (some 64) (Pt.bm 53 1099511627775) (by kernel_rfl) ?_
       refine Pt.pn 40 (some 65) (Pt.bm 53 2199023255551) (by kernel_rfl) ?_
       refine Pt.pn 41 (some 66) (Pt.bm 53 4398046511103) (by kernel_rfl) ?_
       refine Pt.pn 42 (some 67) (Pt.bm 53 8796093022207) (by kernel_rfl) ?_
       refine Pt.pn 43 (some 68) (Pt.bm 53 17592186044415) (by kernel_rfl) ?_
       refine Pt.pn 44 (some 69) (Pt.bm 53 35184372088831) (by kernel_rfl) ?_
       refine Pt.pn 45 (some 70) (Pt.bm 53 70368744177663) (by kernel_rfl) ?_
       refine Pt.pn 46 (some 71) (Pt.bm 53 140737488355327) (by kernel_rfl) ?_
       refine Pt.pu 47 (some 72) (Pt.bm 53 281474976710655) (by kernel_rfl) ?_
       refine Pt.pu 48 (some 73) (Pt.bm 53 562949953421311) (by kernel_rfl) ?_
       refine Pt.pn 49 (some 74) (Pt.bm 53 1125899906842623) (by kernel_rfl) ?_
       refine Pt.pn 50 (some 75) (Pt.bm 53 2251799813685247) (by kernel_rfl) ?_
       refine Pt.pn 51 (some 76) (Pt.bm 53 4503599627370495) (by kernel_rfl) ?_
       refine Pt.pu 52 (some 77) (Pt.bm 53 9007199254740991) (by kernel_rfl) ?_
       refine done_ (by kernel_rfl) ?_
       have hla := HLA.out
       rw [if_pos rfl] at hla
       obtain rfl := Option.some.inj hla
       have HBx := Aside0.mk hHeld.2.2.2
       clear hHeld
       go_wp2
       go_ret
       exact ⟨rfl, HBx.out⟩
      | true =>
       rw [if_neg (by decide)] at hq
       refine Pt.pu 8 (some 33) (Pt.bm 53 511) (by kernel_rfl) ?_
       refine Pt.tk 9 (some 34) (Pt.bm 53 1023) rfl rfl (by kernel_rfl) hHeld (Or.inl ⟨by rfl, by rintro w' sS; have s0 := sS.d0; have s1 := sS.d1; have s2 := sS.x0; have s3 := sS.x1; have s4 := sS.x2; go_simp; with_reducible rfl⟩) ?_
       refine Pt.pu 10 (some 35) (Pt.bm 53 2047) (by kernel_rfl) ?_
       refine Pt.pu 11 (some 36) (Pt.bm 53 4095) (by kernel_rfl) ?_
       refine one_ (i := 12) (N := some 37) (Pt.bm 53 8191) rfl rfl (by kernel_rfl) (by decide) (fun K hK => ?_)
       refine goes_ Try.func73 (by kernel_rfl) rfl #[.int .i64 x.f1, .int .i64 0, .int .i64 (wrap64 ((i : Int) + 1))] (by rfl) rfl rfl (by (try simp only [List.map_toArray, List.map_cons, List.map_nil]); first | done | rfl) ?_
       refine (impl_in.calls x.f1 0 (wrap64 ((i : Int) + 1)) true _ T2.out).mono ?_
       rintro e w11 ⟨rfl, hd⟩
       refine ⟨_, rfl, ?_⟩
       refine hK.out _ _ (hHeld.step hd.below) (fun hHeld => ?_)
       clear hK K hd
       refine norm_ (a' := ?_) ?_ ?_
       rotate_left
       ·show Act.put _ (some 37) _ = _
        simp only [Act.put, List.setIfInBounds_toArray, List.set_cons_zero, List.set_cons_succ, i64_w, i32_w]
        rfl
       refine Pt.pu 13 (some 38) (Pt.bm 53 16383) (by kernel_rfl) ?_
       refine Pt.pu 14 (some 39) (Pt.bm 53 32767) (by kernel_rfl) ?_
       refine Pt.pu 15 (some 40) (Pt.bm 53 65535) (by kernel_rfl) ?_
       obtain ⟨t3, hq3, hq⟩ := Option.bind_eq_some_iff.mp hq
       have T3 := Aside0.mk hq3
       clear hq3
       cases t3 with
       | false =>
        rw [if_pos rfl] at hq
        obtain rfl := Option.some.inj hq
        clear hq
        refine Pt.pu 16 (some 41) (Pt.bm 53 131071) (by kernel_rfl) ?_
        refine Pt.tk 17 (some 42) (Pt.bm 53 262143) rfl rfl (by kernel_rfl) hHeld (Or.inl ⟨by rfl, by rintro w' sS; have s0 := sS.d0; have s1 := sS.d1; have s2 := sS.x0; have s3 := sS.x1; have s4 := sS.x2; go_simp; with_reducible rfl⟩) ?_
        refine Pt.pu 18 (some 43) (Pt.bm 53 524287) (by kernel_rfl) ?_
        refine Pt.pu 19 (some 44) (Pt.bm 53 1048575) (by kernel_rfl) ?_
        refine one_ (i := 20) (N := some 45) (Pt.bm 53 2097151) rfl rfl (by kernel_rfl) (by decide) (fun K hK => ?_)
        refine goes_ Try.func73 (by kernel_rfl) rfl #[.int .i64 x.f2, .int .i64 0, .int .i64 (wrap64 ((i : Int) + 1))] (by rfl) rfl rfl (by (try simp only [List.map_toArray, List.map_cons, List.map_nil]); first | done | rfl) ?_
        refine (impl_in.calls x.f2 0 (wrap64 ((i : Int) + 1)) false _ T3.out).mono ?_
        rintro e w12 ⟨rfl, hd⟩
        refine ⟨_, rfl, ?_⟩
        refine hK.out _ _ (hHeld.step hd.below) (fun hHeld => ?_)
        clear hK K hd
        refine norm_ (a' := ?_) ?_ ?_
        rotate_left
        ·show Act.put _ (some 45) _ = _
         simp only [Act.put, List.setIfInBounds_toArray, List.set_cons_zero, List.set_cons_succ, i64_w, i32_w]
         rfl
        refine Pt.pu 21 (some 46) (Pt.bm 53 4194303) (by kernel_rfl) ?_
        refine Pt.pu 22 (some 47) (Pt.bm 53 8388607) (by kernel_rfl) ?_
        refine Pt.pu 23 (some 48) (Pt.bm 53 16777215) (by kernel_rfl) ?_
        refine Pt.pn 24 (some 49) (Pt.bm 53 33554431) (by kernel_rfl) ?_
        refine Pt.pn 25 (some 50) (Pt.bm 53 67108863) (by kernel_rfl) ?_
        refine Pt.pn 26 (some 51) (Pt.bm 53 134217727) (by kernel_rfl) ?_
        refine Pt.pn 27 (some 52) (Pt.bm 53 268435455) (by kernel_rfl) ?_
        refine Pt.pn 28 (some 53) (Pt.bm 53 536870911) (by kernel_rfl) ?_
        refine Pt.pu 29 (some 54) (Pt.bm 53 1073741823) (by kernel_rfl) ?_
        refine Pt.pu 30 (some 55) (Pt.bm 53 2147483647) (by kernel_rfl) ?_
        refine Pt.pn 31 (some 56) (Pt.bm 53 4294967295) (by kernel_rfl) ?_
        refine Pt.pn 32 (some 57) (Pt.bm 53 8589934591) (by kernel_rfl) ?_
        refine Pt.pn 33 (some 58) (Pt.bm 53 17179869183) (by kernel_rfl) ?_
        refine Pt.pn 34 (some 59) (Pt.bm 53 34359738367) (by kernel_rfl) ?_
        refine Pt.pn 35 (some 60) (Pt.bm 53 68719476735) (by kernel_rfl) ?_
        refine Pt.pn 36 (some 61) (Pt.bm 53 137438953471) (by kernel_rfl) ?_
        refine Pt.pn 37 (some 62) (Pt.bm 53 274877906943) (by kernel_rfl) ?_
        refine Pt.pu 38 (some 63) (Pt.bm 53 549755813887) (by kernel_rfl) ?_
        refine Pt.pu 39 (some 64) (Pt.bm 53 1099511627775) (by kernel_rfl) ?_
        refine Pt.pn 40 (some 65) (Pt.bm 53 2199023255551) (by kernel_rfl) ?_
        refine Pt.pn 41 (some 66) (Pt.bm 53 4398046511103) (by kernel_rfl) ?_
        refine Pt.pn 42 (some 67) (Pt.bm 53 8796093022207) (by kernel_rfl) ?_
        refine Pt.pn 43 (some 68) (Pt.bm 53 17592186044415) (by kernel_rfl) ?_
        refine Pt.pn 44 (some 69) (Pt.bm 53 35184372088831) (by kernel_rfl) ?_
        refine Pt.pn 45 (some 70) (Pt.bm 53 70368744177663) (by kernel_rfl) ?_
        refine Pt.pn 46 (some 71) (Pt.bm 53 140737488355327) (by kernel_rfl) ?_
        refine Pt.pu 47 (some 72) (Pt.bm 53 281474976710655) (by kernel_rfl) ?_
        refine Pt.pu 48 (some 73) (Pt.bm 53 562949953421311) (by kernel_rfl) ?_
        refine Pt.pn 49 (some 74) (Pt.bm 53 1125899906842623) (by kernel_rfl) ?_
        refine Pt.pn 50 (some 75) (Pt.bm 53 2251799813685247) (by kernel_rfl) ?_
        refine Pt.pn 51 (some 76) (Pt.bm 53 4503599627370495) (by kernel_rfl) ?_
        refine Pt.pu 52 (some 77) (Pt.bm 53 9007199254740991) (by kernel_rfl) ?_
        refine done_ (by kernel_rfl) ?_
        have hla := HLA.out
        rw [if_pos rfl] at hla
        obtain rfl := Option.some.inj hla
        have HBx := Aside0.mk hHeld.2.2.2
        clear hHeld
        go_wp2
        go_ret
        exact ⟨rfl, HBx.out⟩
       | true =>
        rw [if_neg (by decide)] at hq
        refine Pt.pu 16 (some 41) (Pt.bm 53 131071) (by kernel_rfl) ?_
        refine Pt.tk 17 (some 42) (Pt.bm 53 262143) rfl rfl (by kernel_rfl) hHeld (Or.inl ⟨by rfl, by rintro w' sS; have s0 := sS.d0; have s1 := sS.d1; have s2 := sS.x0; have s3 := sS.x1; have s4 := sS.x2; go_simp; with_reducible rfl⟩) ?_
        refine Pt.pu 18 (some 43) (Pt.bm 53 524287) (by kernel_rfl) ?_
        refine Pt.pu 19 (some 44) (Pt.bm 53 1048575) (by kernel_rfl) ?_
        refine one_ (i := 20) (N := some 45) (Pt.bm 53 2097151) rfl rfl (by kernel_rfl) (by decide) (fun K hK => ?_)
        refine goes_ Try.func73 (by kernel_rfl) rfl #[.int .i64 x.f2, .int .i64 0, .int .i64 (wrap64 ((i : Int) + 1))] (by rfl) rfl rfl (by (try simp only [List.map_toArray, List.map_cons, List.map_nil]); first | done | rfl) ?_
        refine (impl_in.calls x.f2 0 (wrap64 ((i : Int) + 1)) true _ T3.out).mono ?_
        rintro e w12 ⟨rfl, hd⟩
        refine ⟨_, rfl, ?_⟩
        refine hK.out _ _ (hHeld.step hd.below) (fun hHeld => ?_)
        clear hK K hd
        refine norm_ (a' := ?_) ?_ ?_
        rotate_left
        ·show Act.put _ (some 45) _ = _
         simp only [Act.put, List.setIfInBounds_toArray, List.set_cons_zero, List.set_cons_succ, i64_w, i32_w]
         rfl
        refine Pt.pu 21 (some 46) (Pt.bm 53 4194303) (by kernel_rfl) ?_
        refine Pt.pu 22 (some 47) (Pt.bm 53 8388607) (by kernel_rfl) ?_
        refine Pt.pu 23 (some 48) (Pt.bm 53 16777215) (by kernel_rfl) ?_
        by_cases c4 : x.f1 = x.f2
        ·rw [if_pos c4] at hq
         obtain rfl := Option.some.inj hq
         have c4b : (x.f1 == x.f2) = true := beq_iff_eq.mpr c4
         clear hq c4
         refine Pt.pu 24 (some 49) (Pt.bm 53 33554431) (by kernel_rfl) ?_
         refine Pt.tk 25 (some 50) (Pt.bm 53 67108863) rfl rfl (by kernel_rfl) hHeld (Or.inl ⟨by rfl, by rintro w' sS; have s0 := sS.d0; have s1 := sS.d1; have s2 := sS.x0; have s3 := sS.x1; have s4 := sS.x2; go_simp; with_reducible rfl⟩) ?_
         refine Pt.pu 26 (some 51) (Pt.bm 53 134217727) (by kernel_rfl) ?_
         refine Pt.tk 27 (some 52) (Pt.bm 53 268435455) rfl rfl (by kernel_rfl) hHeld (Or.inl ⟨by rfl, by rintro w' sS; have s0 := sS.d0; have s1 := sS.d1; have s2 := sS.x0; have s3 := sS.x1; have s4 := sS.x2; go_simp; with_reducible rfl⟩) ?_
         refine Pt.pu 28 (some 53) (Pt.bm 53 536870911) (by kernel_rfl) ?_
         refine Pt.pu 29 (some 54) (Pt.bm 53 1073741823) (by kernel_rfl) ?_
         refine Pt.pu 30 (some 55) (Pt.bm 53 2147483647) (by kernel_rfl) ?_
         refine Pt.pn 31 (some 56) (Pt.bm 53 4294967295) (by kernel_rfl) ?_
         refine Pt.pn 32 (some 57) (Pt.bm 53 8589934591) (by kernel_rfl) ?_
         refine Pt.pn 33 (some 58) (Pt.bm 53 17179869183) (by kernel_rfl) ?_
         refine Pt.pn 34 (some 59) (Pt.bm 53 34359738367) (by kernel_rfl) ?_
         refine Pt.pn 35 (some 60) (Pt.bm 53 68719476735) (by kernel_rfl) ?_
         refine Pt.pn 36 (some 61) (Pt.bm 53 137438953471) (by kernel_rfl) ?_
         refine Pt.pn 37 (some 62) (Pt.bm 53 274877906943) (by kernel_rfl) ?_
         refine Pt.pu 38 (some 63) (Pt.bm 53 549755813887) (by kernel_rfl) ?_
         refine Pt.pu 39 (some 64) (Pt.bm 53 1099511627775) (by kernel_rfl) ?_
         refine Pt.pn 40 (some 65) (Pt.bm 53 2199023255551) (by kernel_rfl) ?_
         refine Pt.pn 41 (some 66) (Pt.bm 53 4398046511103) (by kernel_rfl) ?_
         refine Pt.pn 42 (some 67) (Pt.bm 53 8796093022207) (by kernel_rfl) ?_
         refine Pt.pn 43 (some 68) (Pt.bm 53 17592186044415) (by kernel_rfl) ?_
         refine Pt.pn 44 (some 69) (Pt.bm 53 35184372088831) (by kernel_rfl) ?_
         refine Pt.pn 45 (some 70) (Pt.bm 53 70368744177663) (by kernel_rfl) ?_
         refine Pt.pn 46 (some 71) (Pt.bm 53 140737488355327) (by kernel_rfl) ?_
         refine Pt.pu 47 (some 72) (Pt.bm 53 281474976710655) (by kernel_rfl) ?_
         refine Pt.pu 48 (some 73) (Pt.bm 53 562949953421311) (by kernel_rfl) ?_
         refine Pt.pn 49 (some 74) (Pt.bm 53 1125899906842623) (by kernel_rfl) ?_
         refine Pt.pn 50 (some 75) (Pt.bm 53 2251799813685247) (by kernel_rfl) ?_
         refine Pt.pn 51 (some 76) (Pt.bm 53 4503599627370495) (by kernel_rfl) ?_
         refine Pt.pu 52 (some 77) (Pt.bm 53 9007199254740991) (by kernel_rfl) ?_
         refine done_ (by kernel_rfl) ?_
         have hla := HLA.out
         rw [if_pos rfl] at hla
         obtain rfl := Option.some.inj hla
         have HBx := Aside0.mk hHeld.2.2.2
         clear hHeld
         go_wp2
         go_ret
         exact ⟨rfl, HBx.out⟩
        ·rw [if_neg c4] at hq
         have c4b : (x.f1 == x.f2) = false := beq_eq_false_iff_ne.mpr c4
         clear c4
         refine Pt.pu 24 (some 49) (Pt.bm 53 33554431) (by kernel_rfl) ?_
         refine Pt.tk 25 (some 50) (Pt.bm 53 67108863) rfl rfl (by kernel_rfl) hHeld (Or.inl ⟨by rfl, by rintro w' sS; have s0 := sS.d0; have s1 := sS.d1; have s2 := sS.x0; have s3 := sS.x1; have s4 := sS.x2; go_simp; with_reducible rfl⟩) ?_
         refine Pt.pu 26 (some 51) (Pt.bm 53 134217727) (by kernel_rfl) ?_
         refine Pt.tk 27 (some 52) (Pt.bm 53 268435455) rfl rfl (by kernel_rfl) hHeld (Or.inl ⟨by rfl, by rintro w' sS; have s0 := sS.d0; have s1 := sS.d1; have s2 := sS.x0; have s3 := sS.x1; have s4 := sS.x2; go_simp; with_reducible rfl⟩) ?_
         refine Pt.pu 28 (some 53) (Pt.bm 53 536870911) (by kernel_rfl) ?_
         refine Pt.pu 29 (some 54) (Pt.bm 53 1073741823) (by kernel_rfl) ?_
         refine Pt.pu 30 (some 55) (Pt.bm 53 2147483647) (by kernel_rfl) ?_
         obtain ⟨t5, hq5, hq⟩ := Option.bind_eq_some_iff.mp hq
         have T5 := Aside0.mk hq5
         clear hq5
         by_cases c5 : t5 ≤ x.f0
         ·rw [if_pos c5] at hq
          obtain rfl := Option.some.inj hq
          have c5b : decide (t5 ≤ x.f0) = true := decide_eq_true c5
          clear hq c5
          refine Pt.tk 31 (some 56) (Pt.bm 53 4294967295) rfl rfl (by kernel_rfl) hHeld (Or.inl ⟨by rfl, by rintro w' sS; have s0 := sS.d0; have s1 := sS.d1; have s2 := sS.x0; have s3 := sS.x1; have s4 := sS.x2; go_simp; with_reducible rfl⟩) ?_
          refine Pt.pu 32 (some 57) (Pt.bm 53 8589934591) (by kernel_rfl) ?_
          refine Pt.tk 33 (some 58) (Pt.bm 53 17179869183) rfl rfl (by kernel_rfl) hHeld (Or.inl ⟨by rfl, by rintro w' sS; have s0 := sS.d0; have s1 := sS.d1; have s2 := sS.x0; have s3 := sS.x1; have s4 := sS.x2; go_simp; with_reducible rfl⟩) ?_
          refine Pt.pu 35 (some 60) (Pt.bm 53 51539607551) (by kernel_rfl) ?_
          refine Pt.tk 36 (some 61) (Pt.bm 53 120259084287) rfl rfl (by kernel_rfl) hHeld (Or.inl ⟨by rfl, by rintro w' sS; have s0 := sS.d0; have s1 := sS.d1; have s2 := sS.x0; have s3 := sS.x1; have s4 := sS.x2; go_simp; with_reducible rfl⟩) ?_
          refine one_ (i := 34) (N := some 59) (Pt.bm 53 137438953471) rfl rfl (by kernel_rfl) (by decide) (fun K hK => ?_)
          refine goes_ Try.func101 (by kernel_rfl) rfl #[.agg #[.int .i64 a0, .slice (some ad) l.length c], .int .i64 x.f1] (by rfl) rfl rfl (by (try simp only [List.map_toArray, List.map_cons, List.map_nil]); first | done | rfl) ?_
          refine (impl_Diagram_varAt.calls a0 _ c l x.f1 _ _ (Kd.C_below HR.out hHeld.2.2.2) HC.out T5.out).mono ?_
          rintro e w13 ⟨rfl, hd⟩
          refine ⟨_, rfl, ?_⟩
          refine hK.out _ _ (hHeld.step hd) (fun hHeld => ?_)
          clear hK K hd
          refine norm_ (a' := ?_) ?_ ?_
          rotate_left
          ·show Act.put _ (some 59) _ = _
           simp only [Act.put, List.setIfInBounds_toArray, List.set_cons_zero, List.set_cons_succ, i64_w, i32_w]
           rfl
          refine Pt.pu 37 (some 62) (Pt.bm 53 274877906943) (by kernel_rfl) ?_
          refine Pt.pu 38 (some 63) (Pt.bm 53 549755813887) (by kernel_rfl) ?_
          refine Pt.pu 39 (some 64) (Pt.bm 53 1099511627775) (by kernel_rfl) ?_
          refine Pt.pn 40 (some 65) (Pt.bm 53 2199023255551) (by kernel_rfl) ?_
          refine Pt.pn 41 (some 66) (Pt.bm 53 4398046511103) (by kernel_rfl) ?_
          refine Pt.pn 42 (some 67) (Pt.bm 53 8796093022207) (by kernel_rfl) ?_
          refine Pt.pn 43 (some 68) (Pt.bm 53 17592186044415) (by kernel_rfl) ?_
          refine Pt.pn 44 (some 69) (Pt.bm 53 35184372088831) (by kernel_rfl) ?_
          refine Pt.pn 45 (some 70) (Pt.bm 53 70368744177663) (by kernel_rfl) ?_
          refine Pt.pn 46 (some 71) (Pt.bm 53 140737488355327) (by kernel_rfl) ?_
          refine Pt.pu 47 (some 72) (Pt.bm 53 281474976710655) (by kernel_rfl) ?_
          refine Pt.pu 48 (some 73) (Pt.bm 53 562949953421311) (by kernel_rfl) ?_
          refine Pt.pn 49 (some 74) (Pt.bm 53 1125899906842623) (by kernel_rfl) ?_
          refine Pt.pn 50 (some 75) (Pt.bm 53 2251799813685247) (by kernel_rfl) ?_
          refine Pt.pn 51 (some 76) (Pt.bm 53 4503599627370495) (by kernel_rfl) ?_
          refine Pt.pu 52 (some 77) (Pt.bm 53 9007199254740991) (by kernel_rfl) ?_
          refine done_ (by kernel_rfl) ?_
          have hla := HLA.out
          rw [if_pos rfl] at hla
          obtain rfl := Option.some.inj hla
          have HBx := Aside0.mk hHeld.2.2.2
          clear hHeld
          go_wp2
          go_ret
          exact ⟨rfl, HBx.out⟩
         ·rw [if_neg c5] at hq
          have c5b : decide (t5 ≤ x.f0) = false := decide_eq_false c5
          clear c5
          refine Pt.tk 31 (some 56) (Pt.bm 53 4294967295) rfl rfl (by kernel_rfl) hHeld (Or.inl ⟨by rfl, by rintro w' sS; have s0 := sS.d0; have s1 := sS.d1; have s2 := sS.x0; have s3 := sS.x1; have s4 := sS.x2; go_simp; with_reducible rfl⟩) ?_
          refine Pt.pu 32 (some 57) (Pt.bm 53 8589934591) (by kernel_rfl) ?_
          refine Pt.tk 33 (some 58) (Pt.bm 53 17179869183) rfl rfl (by kernel_rfl) hHeld (Or.inl ⟨by rfl, by rintro w' sS; have s0 := sS.d0; have s1 := sS.d1; have s2 := sS.x0; have s3 := sS.x1; have s4 := sS.x2; go_simp; with_reducible rfl⟩) ?_
          refine Pt.pu 35 (some 60) (Pt.bm 53 51539607551) (by kernel_rfl) ?_
          refine Pt.tk 36 (some 61) (Pt.bm 53 120259084287) rfl rfl (by kernel_rfl) hHeld (Or.inl ⟨by rfl, by rintro w' sS; have s0 := sS.d0; have s1 := sS.d1; have s2 := sS.x0; have s3 := sS.x1; have s4 := sS.x2; go_simp; with_reducible rfl⟩) ?_
          refine one_ (i := 34) (N := some 59) (Pt.bm 53 137438953471) rfl rfl (by kernel_rfl) (by decide) (fun K hK => ?_)
          refine goes_ Try.func101 (by kernel_rfl) rfl #[.agg #[.int .i64 a0, .slice (some ad) l.length c], .int .i64 x.f1] (by rfl) rfl rfl (by (try simp only [List.map_toArray, List.map_cons, List.map_nil]); first | done | rfl) ?_
          refine (impl_Diagram_varAt.calls a0 _ c l x.f1 _ _ (Kd.C_below HR.out hHeld.2.2.2) HC.out T5.out).mono ?_
          rintro e w13 ⟨rfl, hd⟩
          refine ⟨_, rfl, ?_⟩
          refine hK.out _ _ (hHeld.step hd) (fun hHeld => ?_)
          clear hK K hd
          refine norm_ (a' := ?_) ?_ ?_
          rotate_left
          ·show Act.put _ (some 59) _ = _
           simp only [Act.put, List.setIfInBounds_toArray, List.set_cons_zero, List.set_cons_succ, i64_w, i32_w]
           rfl
          refine Pt.pu 37 (some 62) (Pt.bm 53 274877906943) (by kernel_rfl) ?_
          refine Pt.pu 38 (some 63) (Pt.bm 53 549755813887) (by kernel_rfl) ?_
          refine Pt.pu 39 (some 64) (Pt.bm 53 1099511627775) (by kernel_rfl) ?_
          obtain ⟨t6, hq6, hq⟩ := Option.bind_eq_some_iff.mp hq
          have T6 := Aside0.mk hq6
          clear hq6
          by_cases c6 : t6 ≤ x.f0
          ·rw [if_pos c6] at hq
           obtain rfl := Option.some.inj hq
           have c6b : decide (t6 ≤ x.f0) = true := decide_eq_true c6
           clear hq c6
           refine Pt.tk 40 (some 65) (Pt.bm 53 2199023255551) rfl rfl (by kernel_rfl) hHeld (Or.inl ⟨by rfl, by rintro w' sS; have s0 := sS.d0; have s1 := sS.d1; have s2 := sS.x0; have s3 := sS.x1; have s4 := sS.x2; go_simp; with_reducible rfl⟩) ?_
           refine Pt.pu 41 (some 66) (Pt.bm 53 4398046511103) (by kernel_rfl) ?_
           refine Pt.tk 42 (some 67) (Pt.bm 53 8796093022207) rfl rfl (by kernel_rfl) hHeld (Or.inl ⟨by rfl, by rintro w' sS; have s0 := sS.d0; have s1 := sS.d1; have s2 := sS.x0; have s3 := sS.x1; have s4 := sS.x2; go_simp; with_reducible rfl⟩) ?_
           refine Pt.pu 44 (some 69) (Pt.bm 53 26388279066623) (by kernel_rfl) ?_
           refine Pt.tk 45 (some 70) (Pt.bm 53 61572651155455) rfl rfl (by kernel_rfl) hHeld (Or.inl ⟨by rfl, by rintro w' sS; have s0 := sS.d0; have s1 := sS.d1; have s2 := sS.x0; have s3 := sS.x1; have s4 := sS.x2; go_simp; with_reducible rfl⟩) ?_
           refine one_ (i := 43) (N := some 68) (Pt.bm 53 70368744177663) rfl rfl (by kernel_rfl) (by decide) (fun K hK => ?_)
           refine goes_ Try.func101 (by kernel_rfl) rfl #[.agg #[.int .i64 a0, .slice (some ad) l.length c], .int .i64 x.f2] (by rfl) rfl rfl (by (try simp only [List.map_toArray, List.map_cons, List.map_nil]); first | done | rfl) ?_
           refine (impl_Diagram_varAt.calls a0 _ c l x.f2 _ _ (Kd.C_below HR.out hHeld.2.2.2) HC.out T6.out).mono ?_
           rintro e w14 ⟨rfl, hd⟩
           refine ⟨_, rfl, ?_⟩
           refine hK.out _ _ (hHeld.step hd) (fun hHeld => ?_)
           clear hK K hd
           refine norm_ (a' := ?_) ?_ ?_
           rotate_left
           ·show Act.put _ (some 68) _ = _
            simp only [Act.put, List.setIfInBounds_toArray, List.set_cons_zero, List.set_cons_succ, i64_w, i32_w]
            rfl
           refine Pt.pu 46 (some 71) (Pt.bm 53 140737488355327) (by kernel_rfl) ?_
           refine Pt.pu 47 (some 72) (Pt.bm 53 281474976710655) (by kernel_rfl) ?_
           refine Pt.pu 48 (some 73) (Pt.bm 53 562949953421311) (by kernel_rfl) ?_
           refine Pt.pn 49 (some 74) (Pt.bm 53 1125899906842623) (by kernel_rfl) ?_
           refine Pt.pn 50 (some 75) (Pt.bm 53 2251799813685247) (by kernel_rfl) ?_
           refine Pt.pn 51 (some 76) (Pt.bm 53 4503599627370495) (by kernel_rfl) ?_
           refine Pt.pu 52 (some 77) (Pt.bm 53 9007199254740991) (by kernel_rfl) ?_
           refine done_ (by kernel_rfl) ?_
           have hla := HLA.out
           rw [if_pos rfl] at hla
           obtain rfl := Option.some.inj hla
           have HBx := Aside0.mk hHeld.2.2.2
           clear hHeld
           go_wp2
           go_ret
           exact ⟨rfl, HBx.out⟩
          ·rw [if_neg c6] at hq
           have c6b : decide (t6 ≤ x.f0) = false := decide_eq_false c6
           clear c6
           refine Pt.tk 40 (some 65) (Pt.bm 53 2199023255551) rfl rfl (by kernel_rfl) hHeld (Or.inl ⟨by rfl, by rintro w' sS; have s0 := sS.d0; have s1 := sS.d1; have s2 := sS.x0; have s3 := sS.x1; have s4 := sS.x2; go_simp; with_reducible rfl⟩) ?_
           refine Pt.pu 41 (some 66) (Pt.bm 53 4398046511103) (by kernel_rfl) ?_
           refine Pt.tk 42 (some 67) (Pt.bm 53 8796093022207) rfl rfl (by kernel_rfl) hHeld (Or.inl ⟨by rfl, by rintro w' sS; have s0 := sS.d0; have s1 := sS.d1; have s2 := sS.x0; have s3 := sS.x1; have s4 := sS.x2; go_simp; with_reducible rfl⟩) ?_
           refine Pt.pu 44 (some 69) (Pt.bm 53 26388279066623) (by kernel_rfl) ?_
           refine Pt.tk 45 (some 70) (Pt.bm 53 61572651155455) rfl rfl (by kernel_rfl) hHeld (Or.inl ⟨by rfl, by rintro w' sS; have s0 := sS.d0; have s1 := sS.d1; have s2 := sS.x0; have s3 := sS.x1; have s4 := sS.x2; go_simp; with_reducible rfl⟩) ?_
           refine one_ (i := 43) (N := some 68) (Pt.bm 53 70368744177663) rfl rfl (by kernel_rfl) (by decide) (fun K hK => ?_)
           refine goes_ Try.func101 (by kernel_rfl) rfl #[.agg #[.int .i64 a0, .slice (some ad) l.length c], .int .i64 x.f2] (by rfl) rfl rfl (by (try simp only [List.map_toArray, List.map_cons, List.map_nil]); first | done | rfl) ?_
           refine (impl_Diagram_varAt.calls a0 _ c l x.f2 _ _ (Kd.C_below HR.out hHeld.2.2.2) HC.out T6.out).mono ?_
           rintro e w14 ⟨rfl, hd⟩
           refine ⟨_, rfl, ?_⟩
           refine hK.out _ _ (hHeld.step hd) (fun hHeld => ?_)
           clear hK K hd
           refine norm_ (a' := ?_) ?_ ?_
           rotate_left
           ·show Act.put _ (some 68) _ = _
            simp only [Act.put, List.setIfInBounds_toArray, List.set_cons_zero, List.set_cons_succ, i64_w, i32_w]
            rfl
           refine Pt.pu 46 (some 71) (Pt.bm 53 140737488355327) (by kernel_rfl) ?_
           refine Pt.pu 47 (some 72) (Pt.bm 53 281474976710655) (by kernel_rfl) ?_
           refine Pt.pu 48 (some 73) (Pt.bm 53 562949953421311) (by kernel_rfl) ?_
           by_cases c7 : okF x
           ·rw [if_pos c7] at hq
            have OK := Aside0.mk c7
            obtain rfl := Option.some.inj hq
            clear hq c7
            refine Pt.pu 49 (some 74) (Pt.bm 53 1125899906842623) (by kernel_rfl) ?_
            refine Pt.tk 50 (some 75) (Pt.bm 53 2251799813685247) rfl rfl (by kernel_rfl) hHeld (Or.inl ⟨by rfl, by rintro w' sS; have s0 := sS.d0; have s1 := sS.d1; have s2 := sS.x0; have s3 := sS.x1; have s4 := sS.x2; go_simp; with_reducible rfl⟩) ?_
            by_cases c8 : x ∈ l.take i
            ·rw [decide_eq_true c8] at HLA
             refine Pt.tk 51 (some 76) (Pt.bm 53 4503599627370495) rfl rfl (by kernel_rfl) hHeld (Or.inl ⟨by rfl, by rintro w' sS; exact Mp.run_at (.tmp 74) (.tmp 75) rfl rfl sS.2.2.1 keyF Try.underlying109 zero_bool x rfl OK.out (if_pos c8)⟩) ?_
             refine Pt.pu 52 (some 77) (Pt.bm 53 9007199254740991) (by kernel_rfl) ?_
             refine done_ (by kernel_rfl) ?_
             have hla := HLA.out
             rw [if_pos rfl] at hla
             obtain rfl := Option.some.inj hla
             have HBx := Aside0.mk hHeld.2.2.2
             clear hHeld
             go_wp2
             go_ret
             exact ⟨rfl, HBx.out⟩
            ·rw [decide_eq_false c8] at HLA
             refine Pt.tk 51 (some 76) (Pt.bm 53 4503599627370495) rfl rfl (by kernel_rfl) hHeld (Or.inl ⟨by rfl, by rintro w' sS; exact Mp.run_zero (.tmp 74) (.tmp 75) rfl rfl sS.2.2.1 keyF Try.underlying109 zero_bool x rfl OK.out (if_neg c8)⟩) ?_
             refine Pt.pu 52 (some 77) (Pt.bm 53 9007199254740991) (by kernel_rfl) ?_
             refine done_ (by kernel_rfl) ?_
             have hla := HLA.out
             rw [if_neg (by decide)] at hla
             have HLB := Aside0.mk hla
             have SS := Aside0.mk hHeld
             have s2 := hHeld.x0
             have s3 := hHeld.x1
             have s4 := hHeld.x2
             clear hHeld hla HLA
             go_wp2_with ((with_reducible refine gate_ (op := .mapUpdate 109 (.tmp 78) (.tmp 79) (.const (.bool true))) rfl ?_); refine Mp.store rfl (.tmp 78) (.tmp 79) (.const (.bool true)) rfl rfl SS.out.2.2.1 keyF Try.underlying109 x rfl OK.out true rfl ?_; intro wz hMz hgz hsz; have HMZ := Aside0.mk hMz; have HGZ := Aside0.mk hgz; have NB := Aside0.mk (SS.out.2.2.1.ne_blk SS.out.1); clear hMz hgz hsz)
             go_roundg k1
             case measure => exact Nat.lt_succ_self _
             case rel =>
              have hM2 : Mp.Is ekF okF Value.bool wz b (fun y => if y ∈ l.take (i + 1) then some true else none) := by
               have e : (fun y : S56 => if y ∈ l.take (i + 1) then some true else none) = fun y' => if y' = x then some true else if y' ∈ l.take i then some true else none := by
                funext y'
                rw [List.take_add_one, HX.out]
                by_cases e1 : y' = x <;> by_cases e2 : y' ∈ l.take i <;> simp [e1, e2]
               rw [e]
               exact HMZ.out
              have hw2 := HW2.out
              have hw2' : (IntKind.i64.wrap ((i : Int) + 1)) = (i : Int) + 1 := (i64_w _).trans hw2
              exact ⟨i + 1, by first | rfl | (simp only [Int.natCast_add]; rfl) | simp [hw2, hw2'], ⟨by have := HI.out; omega⟩, HLB, ⟨blk_grown SS.out.1 HGZ.out (by simpa using NB.out.symm)⟩, ⟨hM2⟩, ⟨pw_below_grown SS.out.2.2.2 (some b) SS.out.2.2.2.size HGZ.out (fun k hk => by cases hk; exact HBK.out)⟩⟩
           ·rw [if_neg c7] at hq
            cases hq
    ·have hi : i = l.length := by have := HI.out; omega
     subst hi
     have hg0 : gk = 0 := by have := HI.out; omega
     subst hg0
     have c2b : decide ((l.length : Int) < (l.length : Int)) = false := decide_eq_false (by omega)
     obtain rfl := Option.some.inj HL.out
     go_wp2
     go_ret
     exact ⟨rfl, HB.out⟩

/-! ### impl_Diagram_isPlace: function 85 -/
def impl_Diagram_isPlace.f (a0_0 : Int) (l0_1 : List (S56)) (a1 : Int) : Option (Bool) := (impl_in.f a1 0 (wrap64 ((l0_1.length : Int) + 1))).bind fun t251 => (some t251)
set_option maxHeartbeats 8000000 in
set_option maxRecDepth 100000 in
theorem impl_Diagram_isPlace.calls (a0_0 : Int) (A0_1 : Option Addr) (c0_1 : Nat) (l0_1 : List (S56)) (a1 : Int) (r : Bool) (w : World) (hr0_1 : Kd.C k56 w A0_1 l0_1.length l0_1) (hc0_1 : l0_1.length ≤ c0_1) (h : impl_Diagram_isPlace.f a0_0 l0_1 a1 = some r) :
  Calls Try.prog 85 #[.agg #[.int .i64 a0_0, .slice A0_1 l0_1.length c0_1], .int .i64 a1] w fun e w' => e = .returned (.bool r) ∧ Below w.heap.size w w' := by
 have hu48 := Try.underlying48
 have HR0_1 := Aside0.mk hr0_1
 have HC0_1 := Aside0.mk hc0_1
 clear hr0_1 hc0_1
 have HB := Aside0.mk (Below.refl w.heap.size w)
 have H : ((impl_in.f a1 0 (wrap64 ((l0_1.length : Int) + 1))).bind fun t251 => (some t251)) = some r := h
 clear h
 replace H := Option.bind_eq_some_iff.mp H
 obtain ⟨t251, A30, H⟩ := H
 replace H : (some t251) = some r := H
 have A3 := Aside0.mk A30
 clear A30
 obtain rfl := Option.some.inj H
 go_enter Try.func85, Try.ntmps85
 go_wp2_with (first | ((with_reducible refine gate_dst (N := 2) rfl ?_); refine box_event ?hg (N := 2) ?hd (cs := #[.int .i64 a0_0, .slice A0_1 l0_1.length c0_1]) (t := 48) ?hr ?_; (case hd => rfl); (case hg => rfl); (case hr => first | (go_simp; done) | (go_simp; rfl)); intro gb250 hg w4 hbox hb; have n0_ := Aside0.mk (below_step hbB hb); have n1_ := Aside0.mk (hbox); have n2_ := Aside0.mk ((gwb hg (below_size hbB) : w.heap.size ≤ gb250)); have n3_ := n2_; clear HB; have HB := n0_; have BK250 := n1_; have GW250 := n2_; have GE250 := n3_; clear n0_ n1_ n2_ n3_; clear hb hbox hg; have hcz5_0 : w4.cell? ⟨gb250, 0, none⟩ = some (.int .i64 a0_0) := (blk_cell BK250.out 0).trans rfl; have hcz5_1 : w4.cell? ⟨gb250, 1, none⟩ = some (.slice A0_1 l0_1.length c0_1) := (blk_cell BK250.out 1).trans rfl; have hfz5_0 := blk_frozen BK250.out 0; have hfz5_1 := blk_frozen BK250.out 1) | ((with_reducible refine gate_callee (f := 73) rfl ?_); refine goesL_ (some 10) rfl rfl Try.func73 (by kernel_rfl) rfl #[.int .i64 a1, .int .i64 0, .int .i64 (wrap64 ((l0_1.length : Int) + 1))] rfl lmB ?_; (with_reducible refine (impl_in.calls a1 0 (wrap64 ((l0_1.length : Int) + 1)) t251 _ A3.out).mono ?_); rintro e w' ⟨rfl, ⟨nd, rfl⟩⟩; refine ⟨_, rfl, ?_⟩))
 go_ret
 exact ⟨ers, hbC⟩

/-! ### impl_Fork_137: function 137 -/
def impl_Fork_137.f (l0 : List (S56)) : Option ((List (S56))) := (some (([] : List (S56)) : List (S56))).bind fun y252 => (if y252.length + l0.length < 5864062014805 then (some (y252 ++ l0)) else (none))
set_option maxHeartbeats 8000000 in
set_option maxRecDepth 100000 in
theorem impl_Fork_137.calls_s (Ad0 : Addr) (c0 : Nat) (l0 : List (S56)) (r : List (S56)) (w : World) (hr0 : Kd.C k56 w (some Ad0) l0.length l0) (hc0 : l0.length ≤ c0) (h : impl_Fork_137.f l0 = some r) :
  Calls Try.prog 137 #[.slice (some Ad0) l0.length c0] w fun e w' => ∃ v0_ : Value, e = .returned (v0_) ∧ Kd.R k56 56 w' w.heap.size (fun _ => True) v0_ r ∧ Below w.heap.size w w' := by
 have HR0 := Aside0.mk hr0
 have HC0 := Aside0.mk hc0
 clear hr0 hc0
 have HB := Aside0.mk (Below.refl w.heap.size w)
 have H : ((some (([] : List (S56)) : List (S56))).bind fun y252 => (if y252.length + l0.length < 5864062014805 then (some (y252 ++ l0)) else (none))) = some r := h
 clear h
 obtain ⟨y252, hy252⟩ : ∃ y_ : List (S56), y_ = (([] : List (S56))) := ⟨_, rfl⟩
 replace H : (if y252.length + l0.length < 5864062014805 then (some (y252 ++ l0)) else (none)) = some r := by first | (rw [hy252]; with_reducible exact H) | (have H2_ := (Option.bind_some _ _).symm.trans H; rw [hy252]; with_reducible exact H2_) | (have H2_ := (Option.bind_some _ _).symm.trans H; with_reducible exact H2_) | with_reducible exact H | (rw [hy252]; exact H) | exact H
 have Ny252 := Aside0.mk hy252
 clear hy252
 by_cases c2 : y252.length + l0.length < 5864062014805
 ·rw [if_pos c2] at H
  have LMc2 := Aside0.mk c2
  clear c2
  obtain ⟨y255, hy255⟩ : ∃ y_ : List (S56), y_ = (y252 ++ l0) := ⟨_, rfl⟩
  replace H : (some y255) = some r := by first | (rw [hy255]; with_reducible exact H) | (have H2_ := (Option.bind_some _ _).symm.trans H; rw [hy255]; with_reducible exact H2_) | (have H2_ := (Option.bind_some _ _).symm.trans H; with_reducible exact H2_) | with_reducible exact H | (rw [hy255]; exact H) | exact H
  have Ny255 := Aside0.mk hy255
  clear hy255
  obtain rfl := Option.some.inj H
  have hun_ := fun (w_ : World) (A_ : Option Addr) (n_ c_ : Nat) => Copy.eql_nil (P := Try.prog) w_ 46 _ A_ n_ c_ Try.underlying46
  go_enter Try.func137, Try.ntmps137
  go_wp2_with (first | ((with_reducible refine gate_dst (N := 5) rfl ?_); refine Kd.R_lit k56 _ 56 ?hg (N := 5) ?hd (xs := ([] : List (S56))) (inner := []) (ok := fun _ => True) (okp := fun _ => True) ?hr ?hp (fun _ hk => hk) trivial (Below.refl _ _) (Nat.le_refl _) (by simp) ?_; (case hd => rfl); (case hg => rfl); (case hr => first | (go_simp; done) | (go_simp; rfl)); (case hp => exact (Reps.none _ _)); intro v253 w3 ho4 hb hg_ hnew_; clear hg_ hnew_; (first | rw [← Ny252.out] at ho4 | (simp only [Int.reduceToNat] at ho4; rw [← Ny252.out] at ho4)); have n0_ := Aside0.mk (Kd.R_lower ho4 (below_size hbB)); have n1_ := Aside0.mk (below_step hbB hb); clear HB; have HO254 := n0_; have HB := n1_; clear n0_ n1_; clear hb ho4) | ((with_reducible refine gate_builtin (b := .append) (xs := #[.tmp 5, .tmp 6]) rfl ?_); at_builtin; refine Kd.R_append_rows k56 (w0 := w) w.heap.size rfl (.tmp 5) (.tmp 6) 46 56 (.agg #[(.int .i64 0), (.int .i64 0), (.int .i64 0)]) 24 rfl Try.underlying46 info56 rfl (by decide) (by omega) v253 y252 l0 _ _ _ (fun _ => True) (fun _ => False) rfl rfl ?aO ?aR (fun _ _ h => h) (fun _ h => h.elim) ?aF ?aB ?aS ?aL ?_; (case aR => repeat (first | exact (Kd.C_below HR0.out HB.out) | (with_reducible refine Kd.C_alloc ?_ _) | (with_reducible refine Kd.C_drewN ?_ _) | (with_reducible refine Kd.C_drew ?_))); (case aB => exact hbB); (case aF => exact (fun _ _ => trivial)); (case aO => exact (rvR HO254.out)); (case aS => exact (below_size hbB)); (case aL => have := LMc2.out; omega); intro v256 w5 ho hb hg hat; rw [← Ny255.out] at ho; have n0_ := Aside0.mk (hb); have n1_ := Aside0.mk (ho); clear HB; clear HO254; have HB := n0_; have HO257 := n1_; clear n0_ n1_; clear ho hb hg hat))
  go_ret
  exact ⟨_, ers, by (with_reducible repeat first | apply rvA | apply rvN | apply rvD); exact HO257.out, hbB⟩
 ·rw [if_neg c2] at H
  exact absurd H (by simp)
set_option maxHeartbeats 8000000 in
set_option maxRecDepth 100000 in
theorem impl_Fork_137.calls (A0 : Option Addr) (c0 : Nat) (l0 : List (S56)) (r : List (S56)) (w : World) (hr0 : Kd.C k56 w A0 l0.length l0) (hc0 : l0.length ≤ c0) (h : impl_Fork_137.f l0 = some r) :
  Calls Try.prog 137 #[.slice A0 l0.length c0] w fun e w' => ∃ v0_ : Value, e = .returned (v0_) ∧ Kd.R k56 56 w' w.heap.size (fun _ => True) v0_ r ∧ Below w.heap.size w w' := by
 cases A0 with
 | some ad => exact impl_Fork_137.calls_s ad c0 l0 r w hr0 hc0 h
 | none =>
  have hl : l0 = [] := by
   have h_ := hr0
   cases l0 with
   | nil => rfl
   | cons x_ xs_ => obtain ⟨ad, e_, _⟩ := h_.2.2 (by simp); cases e_
  subst hl
  have hr_ : [] = r := Option.some.inj ((show impl_Fork_137.f [] = some [] by unfold impl_Fork_137.f; simp).symm.trans h)
  subst hr_
  clear hc0
  clear h hr0
  have hun_ := fun (w_ : World) (A_ : Option Addr) (n_ c_ : Nat) => Copy.eql_nil (P := Try.prog) w_ 46 _ A_ n_ c_ Try.underlying46
  go_enter Try.func137, Try.ntmps137
  go_wp2
  go_ret
  exact ⟨_, rfl, by first | exact Kd.R_nil _ _ _ _ _ | exact Kd.N_nil _ _ _ _ _, Below.refl _ _⟩

end Go.Proofs.Ytpcckoljocpchaa.QFnReorderBack
