-- Written by a program of this session (mk.py): the row of the law laws_FnExactAddPick, out of its Pure and the walk. Lean checks it.
import Derived.Test.YtpcckoljocpchaaRows
import Derived.Test.YtpcckoljocpchaaQFnExactAddPickx9
import Derived.Test.YtpcckoljocpchaaPureFnExactAddPick
import Derived.Test.YtpcckoljocpchaaVMoreInvWordsFnExactAddPick
import Derived.WalkKit
import Derived.ProofKit
import Derived.OpenShut
import Derived.ShutString
import Derived.ChangeOld
import Derived.Below
import Derived.Carry
namespace Go.Proofs.Ytpcckoljocpchaa.fnExactAddPick
open Go.ChangeShapes Go.WideShapes Go.ChangeAt Go.RowKit Go.Proofs.YtpcckoljocpchaaW.PrintWords Go.Proofs.Ytpcckoljocpchaa.QFnExactAddPick
open Go.ChangeMaps (open_string shut_string)
set_option linter.unusedVariables false
set_option linter.unusedSimpArgs false
structure S24 where
  f0 : Int
  f1 : List (S113)
def k24 : Kd S24 := Kd.iso (Kd.pair (Kd.int .i64) (Kd.slice 113 k113)) (fun x : S24 => (x.f0, x.f1))
def GoodS24 (x : S24) : Prop := GoodIi64 x.f0 ∧ GoodL3 x.f1
theorem own : ownKnob Try.prog.godebug = none := by kernel_rfl
theorem laidOut : laidOutB Try.prog = true := by kernel_rfl
theorem open0 {H : Type} (enc : TypeId × Value → H) (W : World) : Opn.Opens enc Try.prog W k24 24 GoodS24 := (Opn.opens2 (β := S24) (f := fun x : S24 => (x.f0, x.f1)) Try.underlying24 ⟨by kernel_rfl, by kernel_rfl⟩ (by kernel_rfl) (Opn.opens_int Try.underlying3 (by kernel_rfl)) (Opn.opens_slice Try.underlying22 (by kernel_rfl) (Opn.opens2 (β := S113) (f := fun x : S113 => (x.f0, x.f1)) Try.underlying113 ⟨by kernel_rfl, by kernel_rfl⟩ (by kernel_rfl) (Opn.opens_int Try.underlying3 (by kernel_rfl)) (Opn.opens_int Try.underlying3 (by kernel_rfl)) (fun p => ⟨⟨p.1, p.2⟩, rfl⟩))) (fun p => ⟨⟨p.1, p.2⟩, rfl⟩))
set_option maxRecDepth 100000 in
theorem lifted (os : Os) (started : os.Started) (H : Type) (enc : TypeId × Value → H) :
  ReturnsInHanded {} Try.checked os 3 .any (Rows.fnExactAddPickSpec.pre6 enc Try.prog Try.f3 Rows.fnExactAddPickRow.domain false) (Rows.fnExactAddPickSpec.post enc Try.prog Try.f3 false true false false) := by
 refine returnsInHanded_of_change (C := Try.checked) own started (by kernel_rfl) Try.func3
  (ChangeSpec.witness6 (enc := enc) (C := Try.checked) false ⟨#[], #[.agg #[.int .i64 0, .slice none 0 0], .int .i64 0, .int .i64 0, .int .i64 0], []⟩ 8 (by kernel_rfl) (by kernel_rfl) (by kernel_rfl) (by kernel_rfl)) ?_
 intro W base args ds gs before hval0 hW hcnd _
 have hval : ∀ (j : Nat) t v, Try.f3.params[j]? = some t → args[j]? = some v → Value.okWide Try.prog W .any base t v := hval0
 have hW' := hW
 obtain ⟨p, q, hA0, hV, rfl, hfz, hnd⟩ := hW
 have hA : DataW.TrodAll enc Try.prog W 0 (fun _ => true) true Try.f3.params.toList args.toList ds p := hA0
 rw [Try.params3] at hA hval
 obtain ⟨v0, vs0, d0, ds0, p0, q0, hargs, rfl, rfl, h0, r0⟩ := trodAll_cons hA
 obtain ⟨v1, vs1, d1, ds1, p1, q1, rfl, rfl, rfl, h1, r1⟩ := trodAll_cons r0
 obtain ⟨v2, vs2, d2, ds2, p2, q2, rfl, rfl, rfl, h2, r2⟩ := trodAll_cons r1
 obtain ⟨v3, vs3, d3, ds3, p3, q3, rfl, rfl, rfl, h3, r3⟩ := trodAll_cons r2
 obtain ⟨rfl, rfl, rfl⟩ := trodAll_nil r3
 obtain rfl : args = #[v0, v1, v2, v3] := by cases args; simp_all
 obtain ⟨rfl, rfl⟩ := trodVars_none hV
 obtain ⟨cs0, rfl, _⟩ := okWide_struct Try.underlying24 (hval 0 24 v0 rfl rfl)
 have k0 := h0
 have lt0 : ∀ x ∈ p0, x.block < W.heap.size := by obtain ⟨m, hm⟩ := k0; exact DataW.trod_lt m _ _ _ hm
 obtain ⟨b0, hK0, g0⟩ := (open0 enc W).of_trod h0
 obtain ⟨c0hK0_0, c1hK0_0, echK0_0, hlhK0_0, hK0_0r⟩ := hK0
 have e0_0 := hlhK0_0
 obtain ⟨A0_1, c0_1, e0_1, hc0_1, hr0_1⟩ := hK0_0r
 have ecs0 : cs0 = #[.int .i64 b0.f0, .slice A0_1 b0.f1.length c0_1] := by
  apply Array.ext'
  have z : cs0.toList = _ := echK0_0
  rw [z]
  (try simp only [Kd.int, Kd.bool, Kd.string, Kd.scalar] at e0_0 e0_1)
  rw [e0_0, e0_1]
  try rfl
 subst ecs0
 obtain ⟨a1, rfl, rfl, rfl, w1⟩ := open_int Try.underlying3 (hval 1 3 v1 rfl rfl) h1
 obtain ⟨a2, rfl, rfl, rfl, w2⟩ := open_int Try.underlying3 (hval 2 3 v2 rfl rfl) h2
 obtain ⟨a3, rfl, rfl, rfl, w3⟩ := open_int Try.underlying3 (hval 3 3 v3 rfl rfl) h3
 clear hA0 hval0
 refine (QFnExactAddPick.laws_FnExactAddPick.walk Pure.FnExactAddPick b0.f0 _ _ b0.f1 a1 a2 a3 W hr0_1 hc0_1 g0.1 g0.2 w1 w2 w3).mono fun e W' ⟨he, bel⟩ => ?_
 subst he
 exact ⟨_, rfl, _, _, _, [], _, [], hW', trodAll_mk1 (shut_bool Try.underlying4 _), (trodAll_cons_mk (Below.trod laidOut (by kernel_rfl) (of_decide_eq_true (by kernel_rfl)) k0 bel lt0) (trodAll_cons_mk (shut_int Try.underlying3 w1) (trodAll_cons_mk (shut_int Try.underlying3 w2) (trodAll_cons_mk (shut_int Try.underlying3 w3) trodAll_mk0)))), rfl, bel.frame _, fun h => by cases h⟩
theorem over : Rows.fnExactAddPickRow.holds Try.pinned (OpenSpec.ofChange Rows.fnExactAddPickSpec) :=
 OpenClaim.holds_of_wide 3 Try.f3 rfl rfl rfl rfl rfl rfl rfl ⟨rfl, rfl, rfl, rfl, rfl⟩ rfl rfl rfl rfl rfl (by kernel_rfl) Try.func3 (by kernel_rfl)
  (of_decide_eq_true (by kernel_rfl)) (by unfold Func.isWrapper; first | (rw [if_pos (by decide +kernel)]; kernel_rfl) | (rw [if_neg (by decide +kernel)]; exact ⟨rfl, rfl⟩))
  (fun os started H enc _ => lifted os started H enc)
theorem proved : Rows.FnExactAddPickSaid := over
#print axioms proved
end Go.Proofs.Ytpcckoljocpchaa.fnExactAddPick
namespace Go.Proofs.Ytpcckoljocpchaa
/-- The row, under a short name, for the claim. -/
theorem fnExactAddPick_holds : Rows.FnExactAddPickSaid := fnExactAddPick.proved
end Go.Proofs.Ytpcckoljocpchaa
