/-
  No cell of these rows narrows 'for every input' (looked for: loops, veiled, ifaces, maps, wideKeys, modest, calm, conditions, laid).
  DERIVED. THE GIVEN ROWS OF THIS SEAT. 4 by the template 'for every input the law returns true; each argument reads behind the call as it read before'; 0 by the template 'total and deterministic' (their statements: YtcmpngglnpjgdaaTotals.lean).
  GIVEN WITH THE SEED: the statements are not yours to turn. If you find one false, say at which input.
  Laid BY PROGRAM, IN A SANDBOX (cutbox-rows.mjs): the forced cells as the released guide's own fill.sh prints them over the translation 97e0f4e9c90fa42a… (all of the seat's roots in one cut). By AI agents, Wed Nov 11 2026. No macro, syntax, notation, axiom, sorry.
-/
import Derived.Test.YtcmpngglnpjgdaaChecked
import GoSem.Claim
import GoSem.ClaimJoined
import GoSem.ClaimMapViews
import Derived.JoinedTies
import Derived.KernelRfl
namespace Go.Proofs.Ytcmpngglnpjgdaa
/- THE CELL 'sum', in the pinned program and in every row, IS THE sha256 OF THE DUMP (.gsa) THAT YtcmpngglnpjgdaaProg.lean LOADS. Nothing in Lean hashes anything: it is a label: what it is worth is what the hold of that sum in a sandbox is worth. -/
noncomputable def Try.pinned : Pinned := { name := "ytcmpngglnpjgdaa", sum := "97e0f4e9c90fa42afa7b11bf3dbb0f26dcab6562fb6b9b5f7acd8450d8de605f", checked := Try.checked }
namespace Rows
def none {H : Type} : Left H := { results := [], args := [] }

/-- 'laws.FnExactCanFollow': WHATEVER THE INPUT: true; the input reads as it did. -/
def fnExactCanFollowSpec : ChangeSpec := { name := "fnExactCanFollow", fn := fun _ => fun
  | [d1, d2, d3, d4] => { results := [.lit (.bool true)], args := [d1, d2, d3, d4] }
  | _ => none }
def fnExactCanFollowRow : OpenClaim := { program := "ytcmpngglnpjgdaa", sum := "97e0f4e9c90fa42afa7b11bf3dbb0f26dcab6562fb6b9b5f7acd8450d8de605f", func := "loop.example/wholecheck/laws.FnExactCanFollow", spec := "fnExactCanFollow", unfollowed := true, recurses := true, plainKeys := false, apart := false }
def FnExactCanFollowSaid : Prop := fnExactCanFollowRow.holds Try.pinned (OpenSpec.ofChange fnExactCanFollowSpec)

/-- ITS FALSE NEIGHBOUR: 'it returns false'. Refute it at one input. -/
def fnExactCanFollowWrong : ChangeSpec := { name := "fnExactCanFollow", fn := fun _ => fun
  | [d1, d2, d3, d4] => { results := [.lit (.bool false)], args := [d1, d2, d3, d4] }
  | _ => none }
def FnExactCanFollowWrongFalsely : Prop := fnExactCanFollowRow.holds Try.pinned (OpenSpec.ofChange fnExactCanFollowWrong)

/-- 'laws.FnExactAddFork': WHATEVER THE INPUT: true; the input reads as it did. -/
def fnExactAddForkSpec : ChangeSpec := { name := "fnExactAddFork", fn := fun _ => fun
  | [d1, d2, d3, d4] => { results := [.lit (.bool true)], args := [d1, d2, d3, d4] }
  | _ => none }
def fnExactAddForkRow : OpenClaim := { program := "ytcmpngglnpjgdaa", sum := "97e0f4e9c90fa42afa7b11bf3dbb0f26dcab6562fb6b9b5f7acd8450d8de605f", func := "loop.example/wholecheck/laws.FnExactAddFork", spec := "fnExactAddFork", plainKeys := false, apart := false }
def FnExactAddForkSaid : Prop := fnExactAddForkRow.holds Try.pinned (OpenSpec.ofChange fnExactAddForkSpec)

/-- ITS FALSE NEIGHBOUR: 'it returns false'. Refute it at one input. -/
def fnExactAddForkWrong : ChangeSpec := { name := "fnExactAddFork", fn := fun _ => fun
  | [d1, d2, d3, d4] => { results := [.lit (.bool false)], args := [d1, d2, d3, d4] }
  | _ => none }
def FnExactAddForkWrongFalsely : Prop := fnExactAddForkRow.holds Try.pinned (OpenSpec.ofChange fnExactAddForkWrong)

/-- 'laws.FnExactStepHolds': WHATEVER THE INPUT: true; the input reads as it did. -/
def fnExactStepHoldsSpec : ChangeSpec := { name := "fnExactStepHolds", fn := fun _ => fun
  | [d1, d2] => { results := [.lit (.bool true)], args := [d1, d2] }
  | _ => none }
def fnExactStepHoldsRow : OpenClaim := { program := "ytcmpngglnpjgdaa", sum := "97e0f4e9c90fa42afa7b11bf3dbb0f26dcab6562fb6b9b5f7acd8450d8de605f", func := "loop.example/wholecheck/laws.FnExactStepHolds", spec := "fnExactStepHolds", unfollowed := true, recurses := true, plainKeys := false, apart := false }
def FnExactStepHoldsSaid : Prop := fnExactStepHoldsRow.holds Try.pinned (OpenSpec.ofChange fnExactStepHoldsSpec)

/-- ITS FALSE NEIGHBOUR: 'it returns false'. Refute it at one input. -/
def fnExactStepHoldsWrong : ChangeSpec := { name := "fnExactStepHolds", fn := fun _ => fun
  | [d1, d2] => { results := [.lit (.bool false)], args := [d1, d2] }
  | _ => none }
def FnExactStepHoldsWrongFalsely : Prop := fnExactStepHoldsRow.holds Try.pinned (OpenSpec.ofChange fnExactStepHoldsWrong)

/-- 'laws.FnSharedAtoms': WHATEVER THE INPUT: true; the input reads as it did. -/
def fnSharedAtomsSpec : ChangeSpec := { name := "fnSharedAtoms", fn := fun _ => fun
  | [d] => { results := [.lit (.bool true)], args := [d] }
  | _ => none }
def fnSharedAtomsRow : OpenClaim := { program := "ytcmpngglnpjgdaa", sum := "97e0f4e9c90fa42afa7b11bf3dbb0f26dcab6562fb6b9b5f7acd8450d8de605f", func := "loop.example/wholecheck/laws.FnSharedAtoms", spec := "fnSharedAtoms", unfollowed := true, recurses := true, plainKeys := false, apart := false }
def FnSharedAtomsSaid : Prop := fnSharedAtomsRow.holds Try.pinned (OpenSpec.ofChange fnSharedAtomsSpec)

/-- ITS FALSE NEIGHBOUR: 'it returns false'. Refute it at one input. -/
def fnSharedAtomsWrong : ChangeSpec := { name := "fnSharedAtoms", fn := fun _ => fun
  | [d] => { results := [.lit (.bool false)], args := [d] }
  | _ => none }
def FnSharedAtomsWrongFalsely : Prop := fnSharedAtomsRow.holds Try.pinned (OpenSpec.ofChange fnSharedAtomsWrong)

/- THE SECOND FORM. 'bulk': how many values and letters a reading holds, each counted each time it is reached (what is shared counts as often as it is met; a slice's spare places count too). A statement '..UptoSaid' is the law's where the arguments, and the package variables that the reading takes, are together of bulk at most 1048576: NARROWER than '..Said'. Prove '..Said' where nothing that the law and all that it calls make is longer than what came in: it says more and counts as full. Else prove '..UptoSaid'. A law counts once. -/
mutual
def uptoBulk {H : Type} : DataW H → Nat
  | .lit (.string bytes) => bytes.length + 1
  | .lit _ => 1
  | .nil => 1
  | .ptr d => uptoBulk d + 1
  | .slice elems spare => uptoBulkAll elems + uptoBulkAll spare + 1
  | .agg parts => uptoBulkAll parts + 1
  | .iface _ d => uptoBulk d + 1
  | .map entries => uptoBulkEntries entries + 1
  | .held _ => 1
def uptoBulkAll {H : Type} : List (DataW H) → Nat
  | [] => 0
  | d :: r => uptoBulk d + uptoBulkAll r
def uptoBulkEntries {H : Type} : List (Lit × DataW H) → Nat
  | [] => 0
  | x :: r => uptoBulkEntry x + uptoBulkEntries r
def uptoBulkEntry {H : Type} : Lit × DataW H → Nat
  | (.string bytes, d) => bytes.length + uptoBulk d + 1
  | (_, d) => uptoBulk d + 1
 end
def uptoSmall : (H : Type) → List (DataW H) → Bool := fun _ ds => decide (uptoBulkAll ds ≤ 1048576)
def OpenSpec.upto (s : _root_.Go.ChangeSpec) : _root_.Go.OpenSpec := { _root_.Go.OpenSpec.ofChange s with cond := some uptoSmall }

/-- 'laws.FnExactCanFollow', WHERE WHAT IT READS IS OF BULK AT MOST 1048576: true; the input reads as it did. -/
def fnExactCanFollowUptoRow : OpenClaim := { program := "ytcmpngglnpjgdaa", sum := "97e0f4e9c90fa42afa7b11bf3dbb0f26dcab6562fb6b9b5f7acd8450d8de605f", func := "loop.example/wholecheck/laws.FnExactCanFollow", spec := "fnExactCanFollow", unfollowed := true, recurses := true, plainKeys := false, apart := false, narrowed := true }
def FnExactCanFollowUptoSaid : Prop := fnExactCanFollowUptoRow.holds Try.pinned (OpenSpec.upto fnExactCanFollowSpec)

/-- 'laws.FnExactAddFork', WHERE WHAT IT READS IS OF BULK AT MOST 1048576: true; the input reads as it did. -/
def fnExactAddForkUptoRow : OpenClaim := { program := "ytcmpngglnpjgdaa", sum := "97e0f4e9c90fa42afa7b11bf3dbb0f26dcab6562fb6b9b5f7acd8450d8de605f", func := "loop.example/wholecheck/laws.FnExactAddFork", spec := "fnExactAddFork", plainKeys := false, apart := false, narrowed := true }
def FnExactAddForkUptoSaid : Prop := fnExactAddForkUptoRow.holds Try.pinned (OpenSpec.upto fnExactAddForkSpec)

/-- 'laws.FnExactStepHolds', WHERE WHAT IT READS IS OF BULK AT MOST 1048576: true; the input reads as it did. -/
def fnExactStepHoldsUptoRow : OpenClaim := { program := "ytcmpngglnpjgdaa", sum := "97e0f4e9c90fa42afa7b11bf3dbb0f26dcab6562fb6b9b5f7acd8450d8de605f", func := "loop.example/wholecheck/laws.FnExactStepHolds", spec := "fnExactStepHolds", unfollowed := true, recurses := true, plainKeys := false, apart := false, narrowed := true }
def FnExactStepHoldsUptoSaid : Prop := fnExactStepHoldsUptoRow.holds Try.pinned (OpenSpec.upto fnExactStepHoldsSpec)

/-- 'laws.FnSharedAtoms', WHERE WHAT IT READS IS OF BULK AT MOST 1048576: true; the input reads as it did. -/
def fnSharedAtomsUptoRow : OpenClaim := { program := "ytcmpngglnpjgdaa", sum := "97e0f4e9c90fa42afa7b11bf3dbb0f26dcab6562fb6b9b5f7acd8450d8de605f", func := "loop.example/wholecheck/laws.FnSharedAtoms", spec := "fnSharedAtoms", unfollowed := true, recurses := true, plainKeys := false, apart := false, narrowed := true }
def FnSharedAtomsUptoSaid : Prop := fnSharedAtomsUptoRow.holds Try.pinned (OpenSpec.upto fnSharedAtomsSpec)

end Rows
end Go.Proofs.Ytcmpngglnpjgdaa
