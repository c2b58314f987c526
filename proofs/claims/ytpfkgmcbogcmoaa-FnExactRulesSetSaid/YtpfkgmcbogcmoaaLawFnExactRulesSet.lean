-- Written by a program of this session (mk.py): the row of the law laws_FnExactRulesSet, out of its Pure and the walk. Lean checks it.
import Derived.Test.YtpfkgmcbogcmoaaRows
import Derived.Test.YtpfkgmcbogcmoaaQFnExactRulesSetx13
import Derived.Test.YtpfkgmcbogcmoaaPureFnExactRulesSet
import Derived.Test.YtpfkgmcbogcmoaaVMoreInvWordsFnExactRulesSet
import Derived.WalkKit
import Derived.ProofKit
import Derived.OpenShut
import Derived.ShutString
import Derived.ChangeOld
import Derived.Below
import Derived.Carry
namespace Go.Proofs.Ytpfkgmcbogcmoaa.fnExactRulesSet
open Go.ChangeShapes Go.WideShapes Go.ChangeAt Go.RowKit Go.Proofs.YtpfkgmcbogcmoaaW.PrintWords Go.Proofs.Ytpfkgmcbogcmoaa.QFnExactRulesSet
open Go.ChangeMaps (open_string shut_string)
set_option linter.unusedVariables false
set_option linter.unusedSimpArgs false
structure S52 where
  f0 : List (S133)
  f1 : List (S131)
def k52 : Kd S52 := Kd.iso (Kd.pair (Kd.slice 133 k133) (Kd.slice 131 k131)) (fun x : S52 => (x.f0, x.f1))
def GoodS52 (x : S52) : Prop := GoodL12 x.f0 ∧ GoodL13 x.f1
theorem own : ownKnob Try.prog.godebug = none := by kernel_rfl
theorem laidOut : laidOutB Try.prog = true := by kernel_rfl
theorem open0 {H : Type} (enc : TypeId × Value → H) (W : World) : Opn.Opens enc Try.prog W k52 52 GoodS52 := (Opn.opens2 (β := S52) (f := fun x : S52 => (x.f0, x.f1)) Try.underlying52 ⟨by kernel_rfl, by kernel_rfl⟩ (by kernel_rfl) (Opn.opens_slice Try.underlying49 (by kernel_rfl) (Opn.opens3 (β := S133) (f := fun x : S133 => (x.f0, x.f1, x.f2)) Try.underlying133 ⟨by kernel_rfl, by kernel_rfl, by kernel_rfl⟩ (by kernel_rfl) (Opn.opens_int Try.underlying3 (by kernel_rfl)) (Opn.opens_int Try.underlying3 (by kernel_rfl)) (Opn.opens_int Try.underlying3 (by kernel_rfl)) (fun p => ⟨⟨p.1, p.2.1, p.2.2⟩, rfl⟩))) (Opn.opens_slice Try.underlying50 (by kernel_rfl) (Opn.opens3 (β := S131) (f := fun x : S131 => (x.f0, x.f1, x.f2)) Try.underlying131 ⟨by kernel_rfl, by kernel_rfl, by kernel_rfl⟩ (by kernel_rfl) (Opn.opens_slice Try.underlying22 (by kernel_rfl) (Opn.opens4 (β := S75) (f := fun x : S75 => (x.f0, x.f1, x.f2, x.f3)) Try.underlying75 ⟨by kernel_rfl, by kernel_rfl, by kernel_rfl, by kernel_rfl⟩ (by kernel_rfl) (Opn.opens_int Try.underlying3 (by kernel_rfl)) (Opn.opens_int Try.underlying3 (by kernel_rfl)) (Opn.opens_int Try.underlying3 (by kernel_rfl)) (Opn.opens_int Try.underlying3 (by kernel_rfl)) (fun p => ⟨⟨p.1, p.2.1, p.2.2.1, p.2.2.2⟩, rfl⟩))) (Opn.opens_slice Try.underlying23 (by kernel_rfl) (Opn.opens_int Try.underlying3 (by kernel_rfl))) (Opn.opens_slice Try.underlying129 (by kernel_rfl) (Opn.opens_slice Try.underlying22 (by kernel_rfl) (Opn.opens4 (β := S75) (f := fun x : S75 => (x.f0, x.f1, x.f2, x.f3)) Try.underlying75 ⟨by kernel_rfl, by kernel_rfl, by kernel_rfl, by kernel_rfl⟩ (by kernel_rfl) (Opn.opens_int Try.underlying3 (by kernel_rfl)) (Opn.opens_int Try.underlying3 (by kernel_rfl)) (Opn.opens_int Try.underlying3 (by kernel_rfl)) (Opn.opens_int Try.underlying3 (by kernel_rfl)) (fun p => ⟨⟨p.1, p.2.1, p.2.2.1, p.2.2.2⟩, rfl⟩)))) (fun p => ⟨⟨p.1, p.2.1, p.2.2⟩, rfl⟩))) (fun p => ⟨⟨p.1, p.2⟩, rfl⟩))
theorem open1 {H : Type} (enc : TypeId × Value → H) (W : World) : Opn.Opens enc Try.prog W (Kd.slice 3 (Kd.int .i64)) 23 GoodL4 := (Opn.opens_slice Try.underlying23 (by kernel_rfl) (Opn.opens_int Try.underlying3 (by kernel_rfl)))
set_option maxRecDepth 100000 in
theorem lifted (os : Os) (started : os.Started) (H : Type) (enc : TypeId × Value → H) :
  ReturnsInHanded {} Try.checked os 9 .any (Rows.fnExactRulesSetSpec.pre6 enc Try.prog Try.f9 Rows.fnExactRulesSetRow.domain false) (Rows.fnExactRulesSetSpec.post enc Try.prog Try.f9 false true false false) := by
 refine returnsInHanded_of_change (C := Try.checked) own started (by kernel_rfl) Try.func9
  (ChangeSpec.witness6 (enc := enc) (C := Try.checked) false ⟨#[], #[.agg #[.slice none 0 0, .slice none 0 0], .slice none 0 0], []⟩ 8 (by kernel_rfl) (by kernel_rfl) (by kernel_rfl) (by kernel_rfl)) ?_
 intro W base args ds gs before hval0 hW hcnd _
 have hval : ∀ (j : Nat) t v, Try.f9.params[j]? = some t → args[j]? = some v → Value.okWide Try.prog W .any base t v := hval0
 have hW' := hW
 obtain ⟨p, q, hA0, hV, rfl, hfz, hnd⟩ := hW
 have hA : DataW.TrodAll enc Try.prog W 0 (fun _ => true) true Try.f9.params.toList args.toList ds p := hA0
 rw [Try.params9] at hA hval
 obtain ⟨v0, vs0, d0, ds0, p0, q0, hargs, rfl, rfl, h0, r0⟩ := trodAll_cons hA
 obtain ⟨v1, vs1, d1, ds1, p1, q1, rfl, rfl, rfl, h1, r1⟩ := trodAll_cons r0
 obtain ⟨rfl, rfl, rfl⟩ := trodAll_nil r1
 obtain rfl : args = #[v0, v1] := by cases args; simp_all
 obtain ⟨rfl, rfl⟩ := trodVars_none hV
 obtain ⟨cs0, rfl, _⟩ := okWide_struct Try.underlying52 (hval 0 52 v0 rfl rfl)
 have k0 := h0
 have lt0 : ∀ x ∈ p0, x.block < W.heap.size := by obtain ⟨m, hm⟩ := k0; exact DataW.trod_lt m _ _ _ hm
 obtain ⟨b0, hK0, g0⟩ := (open0 enc W).of_trod h0
 obtain ⟨c0hK0_0, c1hK0_0, echK0_0, hlhK0_0, hK0_0r⟩ := hK0
 obtain ⟨A0_0, c0_0, e0_0, hc0_0, hr0_0⟩ := hlhK0_0
 obtain ⟨A0_1, c0_1, e0_1, hc0_1, hr0_1⟩ := hK0_0r
 have ecs0 : cs0 = #[.slice A0_0 b0.f0.length c0_0, .slice A0_1 b0.f1.length c0_1] := by
  apply Array.ext'
  have z : cs0.toList = _ := echK0_0
  rw [z]
  (try simp only [Kd.int, Kd.bool, Kd.string, Kd.scalar] at e0_0 e0_1)
  rw [e0_0, e0_1]
  try rfl
 subst ecs0
 obtain ⟨a1, len1, cap1, rfl⟩ := okWide_slice Try.underlying23 (hval 1 23 v1 rfl rfl)
 have k1 := h1
 have lt1 : ∀ x ∈ p1, x.block < W.heap.size := by obtain ⟨m, hm⟩ := k1; exact DataW.trod_lt m _ _ _ hm
 obtain ⟨l1, hK1, g1⟩ := (open1 enc W).of_trod h1
 obtain ⟨A1, c1, e1, hc1, hr1⟩ := hK1
 simp only [Value.cells, List.cons.injEq, and_true] at e1
 first | (injection e1 with e1_1 e2_1 e3_1; subst e1_1 e2_1 e3_1) | (cases e1)
 clear hA0 hval0
 refine (QFnExactRulesSet.laws_FnExactRulesSet.walk Pure.FnExactRulesSet _ _ b0.f0 _ _ b0.f1 _ _ l1 W hr0_0 hc0_0 hr0_1 hc0_1 hr1 hc1 g0.1 g0.2 g1).mono fun e W' ⟨he, bel⟩ => ?_
 subst he
 exact ⟨_, rfl, _, _, _, [], _, [], hW', trodAll_mk1 (shut_bool Try.underlying4 _), (trodAll_cons_mk (Below.trod laidOut (by kernel_rfl) (of_decide_eq_true (by kernel_rfl)) k0 bel lt0) (trodAll_cons_mk (Below.trod laidOut (by kernel_rfl) (of_decide_eq_true (by kernel_rfl)) k1 bel lt1) trodAll_mk0)), rfl, bel.frame _, fun h => by cases h⟩
theorem over : Rows.fnExactRulesSetRow.holds Try.pinned (OpenSpec.ofChange Rows.fnExactRulesSetSpec) :=
 OpenClaim.holds_of_wide 9 Try.f9 rfl rfl rfl rfl rfl rfl rfl ⟨rfl, rfl, rfl, rfl, rfl⟩ rfl rfl rfl rfl rfl (by kernel_rfl) Try.func9 (by kernel_rfl)
  (of_decide_eq_true (by kernel_rfl)) (by unfold Func.isWrapper; first | (rw [if_pos (by decide +kernel)]; kernel_rfl) | (rw [if_neg (by decide +kernel)]; exact ⟨rfl, rfl⟩))
  (fun os started H enc _ => lifted os started H enc)
theorem proved : Rows.FnExactRulesSetSaid := over
#print axioms proved
end Go.Proofs.Ytpfkgmcbogcmoaa.fnExactRulesSet
namespace Go.Proofs.Ytpfkgmcbogcmoaa
/-- The row, under a short name, for the claim. -/
theorem fnExactRulesSet_holds : Rows.FnExactRulesSetSaid := fnExactRulesSet.proved
end Go.Proofs.Ytpfkgmcbogcmoaa
