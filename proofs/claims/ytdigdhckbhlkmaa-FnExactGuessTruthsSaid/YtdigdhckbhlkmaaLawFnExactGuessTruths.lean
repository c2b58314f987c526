-- Written by a program of this session (mk.py): the row of the law laws_FnExactGuessTruths, out of its Pure and the walk. Lean checks it.
import Derived.Test.YtdigdhckbhlkmaaRows
import Derived.Test.YtdigdhckbhlkmaaQFnExactGuessTruthsx8
import Derived.Test.YtdigdhckbhlkmaaPureFnExactGuessTruths
import Derived.Test.YtdigdhckbhlkmaaVMoreFnExactGuessTruths
import Derived.WalkKit
import Derived.ProofKit
import Derived.OpenShut
import Derived.ShutString
import Derived.ChangeOld
import Derived.Below
import Derived.Carry
namespace Go.Proofs.Ytdigdhckbhlkmaa.fnExactGuessTruths
open Go.ChangeShapes Go.WideShapes Go.ChangeAt Go.RowKit Go.Proofs.YtdigdhckbhlkmaaW.PrintWords Go.Proofs.Ytdigdhckbhlkmaa.QFnExactGuessTruths
open Go.ChangeMaps (open_string shut_string)
set_option linter.unusedVariables false
theorem own : ownKnob Try.prog.godebug = none := by kernel_rfl
theorem laidOut : laidOutB Try.prog = true := by kernel_rfl
theorem open0 {H : Type} (enc : TypeId × Value → H) (W : World) : Opn.Opens enc Try.prog W (Kd.slice 58 k58) 22 GoodL3 := (Opn.opens_slice Try.underlying22 (by kernel_rfl) (Opn.opens4 (β := S58) (f := fun x : S58 => (x.f0, x.f1, x.f2, x.f3)) Try.underlying58 ⟨by kernel_rfl, by kernel_rfl, by kernel_rfl, by kernel_rfl⟩ (by kernel_rfl) (Opn.opens_int Try.underlying3 (by kernel_rfl)) (Opn.opens_int Try.underlying3 (by kernel_rfl)) (Opn.opens_int Try.underlying3 (by kernel_rfl)) (Opn.opens_int Try.underlying3 (by kernel_rfl)) (fun p => ⟨⟨p.1, p.2.1, p.2.2.1, p.2.2.2⟩, rfl⟩)))
set_option maxRecDepth 100000 in
theorem lifted (os : Os) (started : os.Started) (H : Type) (enc : TypeId × Value → H) :
  ReturnsInHanded {} Try.checked os 5 .any (Rows.fnExactGuessTruthsSpec.pre6 enc Try.prog Try.f5 Rows.fnExactGuessTruthsRow.domain false) (Rows.fnExactGuessTruthsSpec.post enc Try.prog Try.f5 false true false false) := by
 refine returnsInHanded_of_change (C := Try.checked) own started (by kernel_rfl) Try.func5
  (ChangeSpec.witness6 (enc := enc) (C := Try.checked) false ⟨#[], #[.slice none 0 0, .int .i64 0, .int .i64 0], []⟩ 8 (by kernel_rfl) (by kernel_rfl) (by kernel_rfl) (by kernel_rfl)) ?_
 intro W base args ds gs before hval0 hW hcnd _
 have hval : ∀ (j : Nat) t v, Try.f5.params[j]? = some t → args[j]? = some v → Value.okWide Try.prog W .any base t v := hval0
 have hW' := hW
 obtain ⟨p, q, hA0, hV, rfl, hfz, hnd⟩ := hW
 have hA : DataW.TrodAll enc Try.prog W 0 (fun _ => true) true Try.f5.params.toList args.toList ds p := hA0
 rw [Try.params5] at hA hval
 obtain ⟨v0, vs0, d0, ds0, p0, q0, hargs, rfl, rfl, h0, r0⟩ := trodAll_cons hA
 obtain ⟨v1, vs1, d1, ds1, p1, q1, rfl, rfl, rfl, h1, r1⟩ := trodAll_cons r0
 obtain ⟨v2, vs2, d2, ds2, p2, q2, rfl, rfl, rfl, h2, r2⟩ := trodAll_cons r1
 obtain ⟨rfl, rfl, rfl⟩ := trodAll_nil r2
 obtain rfl : args = #[v0, v1, v2] := by cases args; simp_all
 obtain ⟨rfl, rfl⟩ := trodVars_none hV
 obtain ⟨a0, len0, cap0, rfl⟩ := okWide_slice Try.underlying22 (hval 0 22 v0 rfl rfl)
 have k0 := h0
 have lt0 : ∀ x ∈ p0, x.block < W.heap.size := by obtain ⟨m, hm⟩ := k0; exact DataW.trod_lt m _ _ _ hm
 obtain ⟨l0, hK0, g0⟩ := (open0 enc W).of_trod h0
 obtain ⟨A0, c0, e0, hc0, hr0⟩ := hK0
 simp only [Value.cells, List.cons.injEq, and_true] at e0
 first | (injection e0 with e1_0 e2_0 e3_0; subst e1_0 e2_0 e3_0) | (cases e0)
 obtain ⟨a1, rfl, rfl, rfl, w1⟩ := open_int Try.underlying3 (hval 1 3 v1 rfl rfl) h1
 obtain ⟨a2, rfl, rfl, rfl, w2⟩ := open_int Try.underlying3 (hval 2 3 v2 rfl rfl) h2
 clear hA0 hval0
 refine (QFnExactGuessTruths.laws_FnExactGuessTruths.walk Pure.FnExactGuessTruths _ _ l0 a1 a2 W hr0 hc0 g0 w1 w2).mono fun e W' ⟨he, bel⟩ => ?_
 subst he
 exact ⟨_, rfl, _, _, _, [], _, [], hW', trodAll_mk1 (shut_bool Try.underlying4 _), (trodAll_cons_mk (Below.trod laidOut (by kernel_rfl) (of_decide_eq_true (by kernel_rfl)) k0 bel lt0) (trodAll_cons_mk (shut_int Try.underlying3 w1) (trodAll_cons_mk (shut_int Try.underlying3 w2) trodAll_mk0))), rfl, bel.frame _, fun h => by cases h⟩
theorem over : Rows.fnExactGuessTruthsRow.holds Try.pinned (OpenSpec.ofChange Rows.fnExactGuessTruthsSpec) :=
 OpenClaim.holds_of_wide 5 Try.f5 rfl rfl rfl rfl rfl rfl rfl ⟨rfl, rfl, rfl, rfl, rfl⟩ rfl rfl rfl rfl rfl (by kernel_rfl) Try.func5 (by kernel_rfl)
  (of_decide_eq_true (by kernel_rfl)) (by unfold Func.isWrapper; first | (rw [if_pos (by decide +kernel)]; kernel_rfl) | (rw [if_neg (by decide +kernel)]; exact ⟨rfl, rfl⟩))
  (fun os started H enc _ => lifted os started H enc)
theorem proved : Rows.FnExactGuessTruthsSaid := over
#print axioms proved
end Go.Proofs.Ytdigdhckbhlkmaa.fnExactGuessTruths
namespace Go.Proofs.Ytdigdhckbhlkmaa
/-- The row, under a short name, for the claim. -/
theorem fnExactGuessTruths_holds : Rows.FnExactGuessTruthsSaid := fnExactGuessTruths.proved
end Go.Proofs.Ytdigdhckbhlkmaa
