-- Written by a program of this session (mk.py): the row of the law laws_FnExactRangeOf, out of its Pure and the walk. Lean checks it.
import Derived.Test.YtpfkgmcbogcmoaaRows
import Derived.Test.YtpfkgmcbogcmoaaQFnExactRangeOfx13
import Derived.Test.YtpfkgmcbogcmoaaPureFnExactRangeOf
import Derived.Test.YtpfkgmcbogcmoaaVMoreInvWordsFnExactRangeOf
import Derived.WalkKit
import Derived.ProofKit
import Derived.OpenShut
import Derived.ShutString
import Derived.ChangeOld
import Derived.Below
import Derived.Carry
namespace Go.Proofs.Ytpfkgmcbogcmoaa.fnExactRangeOf
open Go.ChangeShapes Go.WideShapes Go.ChangeAt Go.RowKit Go.Proofs.YtpfkgmcbogcmoaaW.PrintWords Go.Proofs.Ytpfkgmcbogcmoaa.QFnExactRangeOf
open Go.ChangeMaps (open_string shut_string)
set_option linter.unusedVariables false
set_option linter.unusedSimpArgs false
theorem own : ownKnob Try.prog.godebug = none := by kernel_rfl
theorem laidOut : laidOutB Try.prog = true := by kernel_rfl
theorem open0 {H : Type} (enc : TypeId × Value → H) (W : World) : Opn.Opens enc Try.prog W (Kd.slice 75 k75) 22 GoodL5 := (Opn.opens_slice Try.underlying22 (by kernel_rfl) (Opn.opens4 (β := S75) (f := fun x : S75 => (x.f0, x.f1, x.f2, x.f3)) Try.underlying75 ⟨by kernel_rfl, by kernel_rfl, by kernel_rfl, by kernel_rfl⟩ (by kernel_rfl) (Opn.opens_int Try.underlying3 (by kernel_rfl)) (Opn.opens_int Try.underlying3 (by kernel_rfl)) (Opn.opens_int Try.underlying3 (by kernel_rfl)) (Opn.opens_int Try.underlying3 (by kernel_rfl)) (fun p => ⟨⟨p.1, p.2.1, p.2.2.1, p.2.2.2⟩, rfl⟩)))
theorem open1 {H : Type} (enc : TypeId × Value → H) (W : World) : Opn.Opens enc Try.prog W (Kd.slice 3 (Kd.int .i64)) 23 GoodL3 := (Opn.opens_slice Try.underlying23 (by kernel_rfl) (Opn.opens_int Try.underlying3 (by kernel_rfl)))
theorem open2 {H : Type} (enc : TypeId × Value → H) (W : World) : Opn.Opens enc Try.prog W (Kd.slice 3 (Kd.int .i64)) 23 GoodL3 := (Opn.opens_slice Try.underlying23 (by kernel_rfl) (Opn.opens_int Try.underlying3 (by kernel_rfl)))
set_option maxRecDepth 100000 in
theorem lifted (os : Os) (started : os.Started) (H : Type) (enc : TypeId × Value → H) :
  ReturnsInHanded {} Try.checked os 7 .any (Rows.fnExactRangeOfSpec.pre6 enc Try.prog Try.f7 Rows.fnExactRangeOfRow.domain false) (Rows.fnExactRangeOfSpec.post enc Try.prog Try.f7 false true false false) := by
 refine returnsInHanded_of_change (C := Try.checked) own started (by kernel_rfl) Try.func7
  (ChangeSpec.witness6 (enc := enc) (C := Try.checked) false ⟨#[], #[.slice none 0 0, .slice none 0 0, .slice none 0 0], []⟩ 8 (by kernel_rfl) (by kernel_rfl) (by kernel_rfl) (by kernel_rfl)) ?_
 intro W base args ds gs before hval0 hW hcnd _
 have hval : ∀ (j : Nat) t v, Try.f7.params[j]? = some t → args[j]? = some v → Value.okWide Try.prog W .any base t v := hval0
 have hW' := hW
 obtain ⟨p, q, hA0, hV, rfl, hfz, hnd⟩ := hW
 have hA : DataW.TrodAll enc Try.prog W 0 (fun _ => true) true Try.f7.params.toList args.toList ds p := hA0
 rw [Try.params7] at hA hval
 obtain ⟨v0, vs0, d0, ds0, p0, q0, hargs, rfl, rfl, h0, r0⟩ := trodAll_cons hA
 obtain ⟨v1, vs1, d1, ds1, p1, q1, rfl, rfl, rfl, h1, r1⟩ := trodAll_cons r0
 obtain ⟨v2, vs2, d2, ds2, p2, q2, rfl, rfl, rfl, h2, r2⟩ := trodAll_cons r1
 obtain ⟨rfl, rfl, rfl⟩ := trodAll_nil r2
 obtain rfl : args = #[v0, v1, v2] := by cases args; simp_all
 obtain ⟨rfl, rfl⟩ := trodVars_none hV
 obtain ⟨a0, len0, cap0, rfl⟩ := okWide_slice Try.underlying22 (hval 0 22 v0 rfl rfl)
 have k0 := h0
 have lt0 : ∀ x ∈ p0, x.block < W.heap.size := by obtain ⟨m, hm⟩ := k0; exact DataW.trod_lt m _ _ _ hm
 obtain ⟨l0, hK0, g0⟩ := (open0 enc W).of_trod h0
 obtain ⟨A0, c0, e0, hc0, hr0⟩ := hK0
 simp only [Value.cells, List.cons.injEq, and_true] at e0
 first | (injection e0 with e1_0 e2_0 e3_0; subst e1_0 e2_0 e3_0) | (cases e0)
 obtain ⟨a1, len1, cap1, rfl⟩ := okWide_slice Try.underlying23 (hval 1 23 v1 rfl rfl)
 have k1 := h1
 have lt1 : ∀ x ∈ p1, x.block < W.heap.size := by obtain ⟨m, hm⟩ := k1; exact DataW.trod_lt m _ _ _ hm
 obtain ⟨l1, hK1, g1⟩ := (open1 enc W).of_trod h1
 obtain ⟨A1, c1, e1, hc1, hr1⟩ := hK1
 simp only [Value.cells, List.cons.injEq, and_true] at e1
 first | (injection e1 with e1_1 e2_1 e3_1; subst e1_1 e2_1 e3_1) | (cases e1)
 obtain ⟨a2, len2, cap2, rfl⟩ := okWide_slice Try.underlying23 (hval 2 23 v2 rfl rfl)
 have k2 := h2
 have lt2 : ∀ x ∈ p2, x.block < W.heap.size := by obtain ⟨m, hm⟩ := k2; exact DataW.trod_lt m _ _ _ hm
 obtain ⟨l2, hK2, g2⟩ := (open2 enc W).of_trod h2
 obtain ⟨A2, c2, e2, hc2, hr2⟩ := hK2
 simp only [Value.cells, List.cons.injEq, and_true] at e2
 first | (injection e2 with e1_2 e2_2 e3_2; subst e1_2 e2_2 e3_2) | (cases e2)
 clear hA0 hval0
 refine (QFnExactRangeOf.laws_FnExactRangeOf.walk Pure.FnExactRangeOf _ _ l0 _ _ l1 _ _ l2 W hr0 hc0 hr1 hc1 hr2 hc2 g0 g1 g2).mono fun e W' ⟨he, bel⟩ => ?_
 subst he
 exact ⟨_, rfl, _, _, _, [], _, [], hW', trodAll_mk1 (shut_bool Try.underlying4 _), (trodAll_cons_mk (Below.trod laidOut (by kernel_rfl) (of_decide_eq_true (by kernel_rfl)) k0 bel lt0) (trodAll_cons_mk (Below.trod laidOut (by kernel_rfl) (of_decide_eq_true (by kernel_rfl)) k1 bel lt1) (trodAll_cons_mk (Below.trod laidOut (by kernel_rfl) (of_decide_eq_true (by kernel_rfl)) k2 bel lt2) trodAll_mk0))), rfl, bel.frame _, fun h => by cases h⟩
theorem over : Rows.fnExactRangeOfRow.holds Try.pinned (OpenSpec.ofChange Rows.fnExactRangeOfSpec) :=
 OpenClaim.holds_of_wide 7 Try.f7 rfl rfl rfl rfl rfl rfl rfl ⟨rfl, rfl, rfl, rfl, rfl⟩ rfl rfl rfl rfl rfl (by kernel_rfl) Try.func7 (by kernel_rfl)
  (of_decide_eq_true (by kernel_rfl)) (by unfold Func.isWrapper; first | (rw [if_pos (by decide +kernel)]; kernel_rfl) | (rw [if_neg (by decide +kernel)]; exact ⟨rfl, rfl⟩))
  (fun os started H enc _ => lifted os started H enc)
theorem proved : Rows.FnExactRangeOfSaid := over
#print axioms proved
end Go.Proofs.Ytpfkgmcbogcmoaa.fnExactRangeOf
namespace Go.Proofs.Ytpfkgmcbogcmoaa
/-- The row, under a short name, for the claim. -/
theorem fnExactRangeOf_holds : Rows.FnExactRangeOfSaid := fnExactRangeOf.proved
end Go.Proofs.Ytpfkgmcbogcmoaa
