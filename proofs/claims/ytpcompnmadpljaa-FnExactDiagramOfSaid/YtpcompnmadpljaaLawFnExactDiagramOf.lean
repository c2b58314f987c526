-- Written by a program of this session (mk.py): the row of the law laws_FnExactDiagramOf, out of its Pure and the walk. Lean checks it.
import Derived.Test.YtpcompnmadpljaaRows
import Derived.Test.YtpcompnmadpljaaQFnExactDiagramOfx9
import Derived.Test.YtpcompnmadpljaaPureFnExactDiagramOf
import Derived.Test.YtpcompnmadpljaaVMoreInvWordsFnExactDiagramOf
import Derived.WalkKit
import Derived.ProofKit
import Derived.OpenShut
import Derived.ShutString
import Derived.ChangeOld
import Derived.Below
import Derived.Carry
namespace Go.Proofs.Ytpcompnmadpljaa.fnExactDiagramOf
open Go.ChangeShapes Go.WideShapes Go.ChangeAt Go.RowKit Go.Proofs.YtpcompnmadpljaaW.PrintWords Go.Proofs.Ytpcompnmadpljaa.QFnExactDiagramOf
open Go.ChangeMaps (open_string shut_string)
set_option linter.unusedVariables false
set_option linter.unusedSimpArgs false
structure S58 where
  f0 : Int
  f1 : List (S126)
def k58 : Kd S58 := Kd.iso (Kd.pair (Kd.int .i64) (Kd.slice 126 k126)) (fun x : S58 => (x.f0, x.f1))
def GoodS58 (x : S58) : Prop := GoodIi64 x.f0 ∧ GoodL4 x.f1
theorem own : ownKnob Try.prog.godebug = none := by kernel_rfl
theorem laidOut : laidOutB Try.prog = true := by kernel_rfl
theorem open0 {H : Type} (enc : TypeId × Value → H) (W : World) : Opn.Opens enc Try.prog W k58 58 GoodS58 := (Opn.opens2 (β := S58) (f := fun x : S58 => (x.f0, x.f1)) Try.underlying58 ⟨by kernel_rfl, by kernel_rfl⟩ (by kernel_rfl) (Opn.opens_int Try.underlying3 (by kernel_rfl)) (Opn.opens_slice Try.underlying56 (by kernel_rfl) (Opn.opens2 (β := S126) (f := fun x : S126 => (x.f0, x.f1)) Try.underlying126 ⟨by kernel_rfl, by kernel_rfl⟩ (by kernel_rfl) (Opn.opens_int Try.underlying3 (by kernel_rfl)) (Opn.opens_int Try.underlying3 (by kernel_rfl)) (fun p => ⟨⟨p.1, p.2⟩, rfl⟩))) (fun p => ⟨⟨p.1, p.2⟩, rfl⟩))
set_option maxRecDepth 100000 in
theorem lifted (os : Os) (started : os.Started) (H : Type) (enc : TypeId × Value → H) :
  ReturnsInHanded {} Try.checked os 11 .any (Rows.fnExactDiagramOfSpec.pre6 enc Try.prog Try.f11 Rows.fnExactDiagramOfRow.domain false) (Rows.fnExactDiagramOfSpec.post enc Try.prog Try.f11 false true false false) := by
 refine returnsInHanded_of_change (C := Try.checked) own started (by kernel_rfl) Try.func11
  (ChangeSpec.witness6 (enc := enc) (C := Try.checked) false ⟨#[], #[.agg #[.int .i64 0, .slice none 0 0], .int .i64 0], []⟩ 8 (by kernel_rfl) (by kernel_rfl) (by kernel_rfl) (by kernel_rfl)) ?_
 intro W base args ds gs before hval0 hW hcnd _
 have hval : ∀ (j : Nat) t v, Try.f11.params[j]? = some t → args[j]? = some v → Value.okWide Try.prog W .any base t v := hval0
 have hW' := hW
 obtain ⟨p, q, hA0, hV, rfl, hfz, hnd⟩ := hW
 have hA : DataW.TrodAll enc Try.prog W 0 (fun _ => true) true Try.f11.params.toList args.toList ds p := hA0
 rw [Try.params11] at hA hval
 obtain ⟨v0, vs0, d0, ds0, p0, q0, hargs, rfl, rfl, h0, r0⟩ := trodAll_cons hA
 obtain ⟨v1, vs1, d1, ds1, p1, q1, rfl, rfl, rfl, h1, r1⟩ := trodAll_cons r0
 obtain ⟨rfl, rfl, rfl⟩ := trodAll_nil r1
 obtain rfl : args = #[v0, v1] := by cases args; simp_all
 obtain ⟨rfl, rfl⟩ := trodVars_none hV
 obtain ⟨cs0, rfl, _⟩ := okWide_struct Try.underlying58 (hval 0 58 v0 rfl rfl)
 have k0 := h0
 have lt0 : ∀ x ∈ p0, x.block < W.heap.size := by obtain ⟨m, hm⟩ := k0; exact DataW.trod_lt m _ _ _ hm
 obtain ⟨b0, hK0, g0⟩ := (open0 enc W).of_trod h0
 obtain ⟨c0hK0_0, c1hK0_0, echK0_0, hlhK0_0, hK0_0r⟩ := hK0
 have e0_0 := hlhK0_0
 obtain ⟨A0_1, c0_1, e0_1, hc0_1, hr0_1⟩ := hK0_0r
 have ecs0 : cs0 = #[.int .i64 b0.f0, .slice A0_1 b0.f1.length c0_1] := by
  apply Array.ext'
  have z : cs0.toList = _ := echK0_0
  rw [z]
  (try simp only [Kd.int, Kd.bool, Kd.string, Kd.scalar] at e0_0 e0_1)
  rw [e0_0, e0_1]
  try rfl
 subst ecs0
 obtain ⟨a1, rfl, rfl, rfl, w1⟩ := open_int Try.underlying3 (hval 1 3 v1 rfl rfl) h1
 clear hA0 hval0
 refine (QFnExactDiagramOf.laws_FnExactDiagramOf.walk Pure.FnExactDiagramOf b0.f0 _ _ b0.f1 a1 W hr0_1 hc0_1 g0.1 g0.2 w1).mono fun e W' ⟨he, bel⟩ => ?_
 subst he
 exact ⟨_, rfl, _, _, _, [], _, [], hW', trodAll_mk1 (shut_bool Try.underlying4 _), (trodAll_cons_mk (Below.trod laidOut (by kernel_rfl) (of_decide_eq_true (by kernel_rfl)) k0 bel lt0) (trodAll_cons_mk (shut_int Try.underlying3 w1) trodAll_mk0)), rfl, bel.frame _, fun h => by cases h⟩
theorem over : Rows.fnExactDiagramOfRow.holds Try.pinned (OpenSpec.ofChange Rows.fnExactDiagramOfSpec) :=
 OpenClaim.holds_of_wide 11 Try.f11 rfl rfl rfl rfl rfl rfl rfl ⟨rfl, rfl, rfl, rfl, rfl⟩ rfl rfl rfl rfl rfl (by kernel_rfl) Try.func11 (by kernel_rfl)
  (of_decide_eq_true (by kernel_rfl)) (by unfold Func.isWrapper; first | (rw [if_pos (by decide +kernel)]; kernel_rfl) | (rw [if_neg (by decide +kernel)]; exact ⟨rfl, rfl⟩))
  (fun os started H enc _ => lifted os started H enc)
theorem proved : Rows.FnExactDiagramOfSaid := over
#print axioms proved
end Go.Proofs.Ytpcompnmadpljaa.fnExactDiagramOf
namespace Go.Proofs.Ytpcompnmadpljaa
/-- The row, under a short name, for the claim. -/
theorem fnExactDiagramOf_holds : Rows.FnExactDiagramOfSaid := fnExactDiagramOf.proved
end Go.Proofs.Ytpcompnmadpljaa
