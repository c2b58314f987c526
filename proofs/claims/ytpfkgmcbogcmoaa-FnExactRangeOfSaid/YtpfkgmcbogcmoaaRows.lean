/-
  No cell of these rows narrows 'for every input' (looked for: loops, veiled, ifaces, maps, wideKeys, modest, calm, conditions, laid).
  DERIVED. THE GIVEN ROWS OF THIS SEAT. 10 by the template 'for every input the law returns true; each argument reads behind the call as it read before'; 0 by the template 'total and deterministic' (their statements: YtpfkgmcbogcmoaaTotals.lean).
  GIVEN WITH THE SEED: the statements are not yours to turn. If you find one false, say at which input.
  Laid BY PROGRAM, IN A SANDBOX (cutbox-rows.mjs): the forced cells as the released guide's own fill.sh prints them over the translation e217b7e85ad607b3… (all of the seat's roots in one cut). By AI agents, Wed Nov 11 2026. No macro, syntax, notation, axiom, sorry.
-/
import Derived.Test.YtpfkgmcbogcmoaaChecked
import GoSem.Claim
import GoSem.ClaimJoined
import GoSem.ClaimMapViews
import Derived.JoinedTies
import Derived.KernelRfl
namespace Go.Proofs.Ytpfkgmcbogcmoaa
/- THE CELL 'sum', in the pinned program and in every row, IS THE sha256 OF THE DUMP (.gsa) THAT YtpfkgmcbogcmoaaProg.lean LOADS. Nothing in Lean hashes anything: it is a label: what it is worth is what the hold of that sum in a sandbox is worth. -/
noncomputable def Try.pinned : Pinned := { name := "ytpfkgmcbogcmoaa", sum := "e217b7e85ad607b376c436b11febda8256f469828530c87f597a00542237c31b", checked := Try.checked }
namespace Rows
def none {H : Type} : Left H := { results := [], args := [] }

/-- 'laws.FnExactEval': WHATEVER THE INPUT: true; the input reads as it did. -/
def fnExactEvalSpec : ChangeSpec := { name := "fnExactEval", fn := fun _ => fun
  | [d1, d2] => { results := [.lit (.bool true)], args := [d1, d2] }
  | _ => none }
def fnExactEvalRow : OpenClaim := { program := "ytpfkgmcbogcmoaa", sum := "e217b7e85ad607b376c436b11febda8256f469828530c87f597a00542237c31b", func := "loop.example/wholecheck/laws.FnExactEval", spec := "fnExactEval", unfollowed := true, recurses := true, apart := false }
def FnExactEvalSaid : Prop := fnExactEvalRow.holds Try.pinned (OpenSpec.ofChange fnExactEvalSpec)

/-- ITS FALSE NEIGHBOUR: 'it returns false'. Refute it at one input. -/
def fnExactEvalWrong : ChangeSpec := { name := "fnExactEval", fn := fun _ => fun
  | [d1, d2] => { results := [.lit (.bool false)], args := [d1, d2] }
  | _ => none }
def FnExactEvalWrongFalsely : Prop := fnExactEvalRow.holds Try.pinned (OpenSpec.ofChange fnExactEvalWrong)

/-- 'laws.FnShifted': WHATEVER THE INPUT: true; the input reads as it did. -/
def fnShiftedSpec : ChangeSpec := { name := "fnShifted", fn := fun _ => fun
  | [d] => { results := [.lit (.bool true)], args := [d] }
  | _ => none }
def fnShiftedRow : OpenClaim := { program := "ytpfkgmcbogcmoaa", sum := "e217b7e85ad607b376c436b11febda8256f469828530c87f597a00542237c31b", func := "loop.example/wholecheck/laws.FnShifted", spec := "fnShifted", unfollowed := true, recurses := true, apart := false }
def FnShiftedSaid : Prop := fnShiftedRow.holds Try.pinned (OpenSpec.ofChange fnShiftedSpec)

/-- ITS FALSE NEIGHBOUR: 'it returns false'. Refute it at one input. -/
def fnShiftedWrong : ChangeSpec := { name := "fnShifted", fn := fun _ => fun
  | [d] => { results := [.lit (.bool false)], args := [d] }
  | _ => none }
def FnShiftedWrongFalsely : Prop := fnShiftedRow.holds Try.pinned (OpenSpec.ofChange fnShiftedWrong)

/-- 'laws.FnJoined': WHATEVER THE INPUT: true; the input reads as it did. -/
def fnJoinedSpec : ChangeSpec := { name := "fnJoined", fn := fun _ => fun
  | [d] => { results := [.lit (.bool true)], args := [d] }
  | _ => none }
def fnJoinedRow : OpenClaim := { program := "ytpfkgmcbogcmoaa", sum := "e217b7e85ad607b376c436b11febda8256f469828530c87f597a00542237c31b", func := "loop.example/wholecheck/laws.FnJoined", spec := "fnJoined", unfollowed := true, recurses := true, apart := false }
def FnJoinedSaid : Prop := fnJoinedRow.holds Try.pinned (OpenSpec.ofChange fnJoinedSpec)

/-- ITS FALSE NEIGHBOUR: 'it returns false'. Refute it at one input. -/
def fnJoinedWrong : ChangeSpec := { name := "fnJoined", fn := fun _ => fun
  | [d] => { results := [.lit (.bool false)], args := [d] }
  | _ => none }
def FnJoinedWrongFalsely : Prop := fnJoinedRow.holds Try.pinned (OpenSpec.ofChange fnJoinedWrong)

/-- 'laws.FnEvalUsed': WHATEVER THE INPUT: true; the input reads as it did. -/
def fnEvalUsedSpec : ChangeSpec := { name := "fnEvalUsed", fn := fun _ => fun
  | [d] => { results := [.lit (.bool true)], args := [d] }
  | _ => none }
def fnEvalUsedRow : OpenClaim := { program := "ytpfkgmcbogcmoaa", sum := "e217b7e85ad607b376c436b11febda8256f469828530c87f597a00542237c31b", func := "loop.example/wholecheck/laws.FnEvalUsed", spec := "fnEvalUsed", unfollowed := true, recurses := true, apart := false }
def FnEvalUsedSaid : Prop := fnEvalUsedRow.holds Try.pinned (OpenSpec.ofChange fnEvalUsedSpec)

/-- ITS FALSE NEIGHBOUR: 'it returns false'. Refute it at one input. -/
def fnEvalUsedWrong : ChangeSpec := { name := "fnEvalUsed", fn := fun _ => fun
  | [d] => { results := [.lit (.bool false)], args := [d] }
  | _ => none }
def FnEvalUsedWrongFalsely : Prop := fnEvalUsedRow.holds Try.pinned (OpenSpec.ofChange fnEvalUsedWrong)

/-- 'laws.FnExactRangeOf': WHATEVER THE INPUT: true; the input reads as it did. -/
def fnExactRangeOfSpec : ChangeSpec := { name := "fnExactRangeOf", fn := fun _ => fun
  | [d1, d2, d3] => { results := [.lit (.bool true)], args := [d1, d2, d3] }
  | _ => none }
def fnExactRangeOfRow : OpenClaim := { program := "ytpfkgmcbogcmoaa", sum := "e217b7e85ad607b376c436b11febda8256f469828530c87f597a00542237c31b", func := "loop.example/wholecheck/laws.FnExactRangeOf", spec := "fnExactRangeOf", unfollowed := true, recurses := true, apart := false }
def FnExactRangeOfSaid : Prop := fnExactRangeOfRow.holds Try.pinned (OpenSpec.ofChange fnExactRangeOfSpec)

/-- ITS FALSE NEIGHBOUR: 'it returns false'. Refute it at one input. -/
def fnExactRangeOfWrong : ChangeSpec := { name := "fnExactRangeOf", fn := fun _ => fun
  | [d1, d2, d3] => { results := [.lit (.bool false)], args := [d1, d2, d3] }
  | _ => none }
def FnExactRangeOfWrongFalsely : Prop := fnExactRangeOfRow.holds Try.pinned (OpenSpec.ofChange fnExactRangeOfWrong)

/-- 'laws.FnExactSizeOf': WHATEVER THE INPUT: true; the input reads as it did. -/
def fnExactSizeOfSpec : ChangeSpec := { name := "fnExactSizeOf", fn := fun _ => fun
  | [d] => { results := [.lit (.bool true)], args := [d] }
  | _ => none }
def fnExactSizeOfRow : OpenClaim := { program := "ytpfkgmcbogcmoaa", sum := "e217b7e85ad607b376c436b11febda8256f469828530c87f597a00542237c31b", func := "loop.example/wholecheck/laws.FnExactSizeOf", spec := "fnExactSizeOf", unfollowed := true, recurses := true, apart := false }
def FnExactSizeOfSaid : Prop := fnExactSizeOfRow.holds Try.pinned (OpenSpec.ofChange fnExactSizeOfSpec)

/-- ITS FALSE NEIGHBOUR: 'it returns false'. Refute it at one input. -/
def fnExactSizeOfWrong : ChangeSpec := { name := "fnExactSizeOf", fn := fun _ => fun
  | [d] => { results := [.lit (.bool false)], args := [d] }
  | _ => none }
def FnExactSizeOfWrongFalsely : Prop := fnExactSizeOfRow.holds Try.pinned (OpenSpec.ofChange fnExactSizeOfWrong)

/-- 'laws.FnExactRulesSet': WHATEVER THE INPUT: true; the input reads as it did. -/
def fnExactRulesSetSpec : ChangeSpec := { name := "fnExactRulesSet", fn := fun _ => fun
  | [d1, d2] => { results := [.lit (.bool true)], args := [d1, d2] }
  | _ => none }
def fnExactRulesSetRow : OpenClaim := { program := "ytpfkgmcbogcmoaa", sum := "e217b7e85ad607b376c436b11febda8256f469828530c87f597a00542237c31b", func := "loop.example/wholecheck/laws.FnExactRulesSet", spec := "fnExactRulesSet", unfollowed := true, recurses := true, apart := false }
def FnExactRulesSetSaid : Prop := fnExactRulesSetRow.holds Try.pinned (OpenSpec.ofChange fnExactRulesSetSpec)

/-- ITS FALSE NEIGHBOUR: 'it returns false'. Refute it at one input. -/
def fnExactRulesSetWrong : ChangeSpec := { name := "fnExactRulesSet", fn := fun _ => fun
  | [d1, d2] => { results := [.lit (.bool false)], args := [d1, d2] }
  | _ => none }
def FnExactRulesSetWrongFalsely : Prop := fnExactRulesSetRow.holds Try.pinned (OpenSpec.ofChange fnExactRulesSetWrong)

/-- 'laws.FnExactSystemValid': WHATEVER THE INPUT: true; the input reads as it did. -/
def fnExactSystemValidSpec : ChangeSpec := { name := "fnExactSystemValid", fn := fun _ => fun
  | [d] => { results := [.lit (.bool true)], args := [d] }
  | _ => none }
def fnExactSystemValidRow : OpenClaim := { program := "ytpfkgmcbogcmoaa", sum := "e217b7e85ad607b376c436b11febda8256f469828530c87f597a00542237c31b", func := "loop.example/wholecheck/laws.FnExactSystemValid", spec := "fnExactSystemValid", unfollowed := true, recurses := true, apart := false }
def FnExactSystemValidSaid : Prop := fnExactSystemValidRow.holds Try.pinned (OpenSpec.ofChange fnExactSystemValidSpec)

/-- ITS FALSE NEIGHBOUR: 'it returns false'. Refute it at one input. -/
def fnExactSystemValidWrong : ChangeSpec := { name := "fnExactSystemValid", fn := fun _ => fun
  | [d] => { results := [.lit (.bool false)], args := [d] }
  | _ => none }
def FnExactSystemValidWrongFalsely : Prop := fnExactSystemValidRow.holds Try.pinned (OpenSpec.ofChange fnExactSystemValidWrong)

/-- 'laws.FnFirstIn': WHATEVER THE INPUT: true; the input reads as it did. -/
def fnFirstInSpec : ChangeSpec := { name := "fnFirstIn", fn := fun _ => fun
  | [d] => { results := [.lit (.bool true)], args := [d] }
  | _ => none }
def fnFirstInRow : OpenClaim := { program := "ytpfkgmcbogcmoaa", sum := "e217b7e85ad607b376c436b11febda8256f469828530c87f597a00542237c31b", func := "loop.example/wholecheck/laws.FnFirstIn", spec := "fnFirstIn", unfollowed := true, recurses := true, apart := false }
def FnFirstInSaid : Prop := fnFirstInRow.holds Try.pinned (OpenSpec.ofChange fnFirstInSpec)

/-- ITS FALSE NEIGHBOUR: 'it returns false'. Refute it at one input. -/
def fnFirstInWrong : ChangeSpec := { name := "fnFirstIn", fn := fun _ => fun
  | [d] => { results := [.lit (.bool false)], args := [d] }
  | _ => none }
def FnFirstInWrongFalsely : Prop := fnFirstInRow.holds Try.pinned (OpenSpec.ofChange fnFirstInWrong)

/-- 'laws.FnSets': WHATEVER THE INPUT: true; the input reads as it did. -/
def fnSetsSpec : ChangeSpec := { name := "fnSets", fn := fun _ => fun
  | [d] => { results := [.lit (.bool true)], args := [d] }
  | _ => none }
def fnSetsRow : OpenClaim := { program := "ytpfkgmcbogcmoaa", sum := "e217b7e85ad607b376c436b11febda8256f469828530c87f597a00542237c31b", func := "loop.example/wholecheck/laws.FnSets", spec := "fnSets", unfollowed := true, recurses := true, apart := false }
def FnSetsSaid : Prop := fnSetsRow.holds Try.pinned (OpenSpec.ofChange fnSetsSpec)

/-- ITS FALSE NEIGHBOUR: 'it returns false'. Refute it at one input. -/
def fnSetsWrong : ChangeSpec := { name := "fnSets", fn := fun _ => fun
  | [d] => { results := [.lit (.bool false)], args := [d] }
  | _ => none }
def FnSetsWrongFalsely : Prop := fnSetsRow.holds Try.pinned (OpenSpec.ofChange fnSetsWrong)

/- THE SECOND FORM. 'bulk': how many values and letters a reading holds, each counted each time it is reached (what is shared counts as often as it is met; a slice's spare places count too). A statement '..UptoSaid' is the law's where the arguments, and the package variables that the reading takes, are together of bulk at most 1048576: NARROWER than '..Said'. Prove '..Said' where nothing that the law and all that it calls make is longer than what came in: it says more and counts as full. Else prove '..UptoSaid'. A law counts once. -/
mutual
def uptoBulk {H : Type} : DataW H → Nat
  | .lit (.string bytes) => bytes.length + 1
  | .lit _ => 1
  | .nil => 1
  | .ptr d => uptoBulk d + 1
  | .slice elems spare => uptoBulkAll elems + uptoBulkAll spare + 1
  | .agg parts => uptoBulkAll parts + 1
  | .iface _ d => uptoBulk d + 1
  | .map entries => uptoBulkEntries entries + 1
  | .held _ => 1
def uptoBulkAll {H : Type} : List (DataW H) → Nat
  | [] => 0
  | d :: r => uptoBulk d + uptoBulkAll r
def uptoBulkEntries {H : Type} : List (Lit × DataW H) → Nat
  | [] => 0
  | x :: r => uptoBulkEntry x + uptoBulkEntries r
def uptoBulkEntry {H : Type} : Lit × DataW H → Nat
  | (.string bytes, d) => bytes.length + uptoBulk d + 1
  | (_, d) => uptoBulk d + 1
 end
def uptoSmall : (H : Type) → List (DataW H) → Bool := fun _ ds => decide (uptoBulkAll ds ≤ 1048576)
def OpenSpec.upto (s : _root_.Go.ChangeSpec) : _root_.Go.OpenSpec := { _root_.Go.OpenSpec.ofChange s with cond := some uptoSmall }

/-- 'laws.FnExactEval', WHERE WHAT IT READS IS OF BULK AT MOST 1048576: true; the input reads as it did. -/
def fnExactEvalUptoRow : OpenClaim := { program := "ytpfkgmcbogcmoaa", sum := "e217b7e85ad607b376c436b11febda8256f469828530c87f597a00542237c31b", func := "loop.example/wholecheck/laws.FnExactEval", spec := "fnExactEval", unfollowed := true, recurses := true, apart := false, narrowed := true }
def FnExactEvalUptoSaid : Prop := fnExactEvalUptoRow.holds Try.pinned (OpenSpec.upto fnExactEvalSpec)

/-- 'laws.FnShifted', WHERE WHAT IT READS IS OF BULK AT MOST 1048576: true; the input reads as it did. -/
def fnShiftedUptoRow : OpenClaim := { program := "ytpfkgmcbogcmoaa", sum := "e217b7e85ad607b376c436b11febda8256f469828530c87f597a00542237c31b", func := "loop.example/wholecheck/laws.FnShifted", spec := "fnShifted", unfollowed := true, recurses := true, apart := false, narrowed := true }
def FnShiftedUptoSaid : Prop := fnShiftedUptoRow.holds Try.pinned (OpenSpec.upto fnShiftedSpec)

/-- 'laws.FnJoined', WHERE WHAT IT READS IS OF BULK AT MOST 1048576: true; the input reads as it did. -/
def fnJoinedUptoRow : OpenClaim := { program := "ytpfkgmcbogcmoaa", sum := "e217b7e85ad607b376c436b11febda8256f469828530c87f597a00542237c31b", func := "loop.example/wholecheck/laws.FnJoined", spec := "fnJoined", unfollowed := true, recurses := true, apart := false, narrowed := true }
def FnJoinedUptoSaid : Prop := fnJoinedUptoRow.holds Try.pinned (OpenSpec.upto fnJoinedSpec)

/-- 'laws.FnEvalUsed', WHERE WHAT IT READS IS OF BULK AT MOST 1048576: true; the input reads as it did. -/
def fnEvalUsedUptoRow : OpenClaim := { program := "ytpfkgmcbogcmoaa", sum := "e217b7e85ad607b376c436b11febda8256f469828530c87f597a00542237c31b", func := "loop.example/wholecheck/laws.FnEvalUsed", spec := "fnEvalUsed", unfollowed := true, recurses := true, apart := false, narrowed := true }
def FnEvalUsedUptoSaid : Prop := fnEvalUsedUptoRow.holds Try.pinned (OpenSpec.upto fnEvalUsedSpec)

/-- 'laws.FnExactRangeOf', WHERE WHAT IT READS IS OF BULK AT MOST 1048576: true; the input reads as it did. -/
def fnExactRangeOfUptoRow : OpenClaim := { program := "ytpfkgmcbogcmoaa", sum := "e217b7e85ad607b376c436b11febda8256f469828530c87f597a00542237c31b", func := "loop.example/wholecheck/laws.FnExactRangeOf", spec := "fnExactRangeOf", unfollowed := true, recurses := true, apart := false, narrowed := true }
def FnExactRangeOfUptoSaid : Prop := fnExactRangeOfUptoRow.holds Try.pinned (OpenSpec.upto fnExactRangeOfSpec)

/-- 'laws.FnExactSizeOf', WHERE WHAT IT READS IS OF BULK AT MOST 1048576: true; the input reads as it did. -/
def fnExactSizeOfUptoRow : OpenClaim := { program := "ytpfkgmcbogcmoaa", sum := "e217b7e85ad607b376c436b11febda8256f469828530c87f597a00542237c31b", func := "loop.example/wholecheck/laws.FnExactSizeOf", spec := "fnExactSizeOf", unfollowed := true, recurses := true, apart := false, narrowed := true }
def FnExactSizeOfUptoSaid : Prop := fnExactSizeOfUptoRow.holds Try.pinned (OpenSpec.upto fnExactSizeOfSpec)

/-- 'laws.FnExactRulesSet', WHERE WHAT IT READS IS OF BULK AT MOST 1048576: true; the input reads as it did. -/
def fnExactRulesSetUptoRow : OpenClaim := { program := "ytpfkgmcbogcmoaa", sum := "e217b7e85ad607b376c436b11febda8256f469828530c87f597a00542237c31b", func := "loop.example/wholecheck/laws.FnExactRulesSet", spec := "fnExactRulesSet", unfollowed := true, recurses := true, apart := false, narrowed := true }
def FnExactRulesSetUptoSaid : Prop := fnExactRulesSetUptoRow.holds Try.pinned (OpenSpec.upto fnExactRulesSetSpec)

/-- 'laws.FnExactSystemValid', WHERE WHAT IT READS IS OF BULK AT MOST 1048576: true; the input reads as it did. -/
def fnExactSystemValidUptoRow : OpenClaim := { program := "ytpfkgmcbogcmoaa", sum := "e217b7e85ad607b376c436b11febda8256f469828530c87f597a00542237c31b", func := "loop.example/wholecheck/laws.FnExactSystemValid", spec := "fnExactSystemValid", unfollowed := true, recurses := true, apart := false, narrowed := true }
def FnExactSystemValidUptoSaid : Prop := fnExactSystemValidUptoRow.holds Try.pinned (OpenSpec.upto fnExactSystemValidSpec)

/-- 'laws.FnFirstIn', WHERE WHAT IT READS IS OF BULK AT MOST 1048576: true; the input reads as it did. -/
def fnFirstInUptoRow : OpenClaim := { program := "ytpfkgmcbogcmoaa", sum := "e217b7e85ad607b376c436b11febda8256f469828530c87f597a00542237c31b", func := "loop.example/wholecheck/laws.FnFirstIn", spec := "fnFirstIn", unfollowed := true, recurses := true, apart := false, narrowed := true }
def FnFirstInUptoSaid : Prop := fnFirstInUptoRow.holds Try.pinned (OpenSpec.upto fnFirstInSpec)

/-- 'laws.FnSets', WHERE WHAT IT READS IS OF BULK AT MOST 1048576: true; the input reads as it did. -/
def fnSetsUptoRow : OpenClaim := { program := "ytpfkgmcbogcmoaa", sum := "e217b7e85ad607b376c436b11febda8256f469828530c87f597a00542237c31b", func := "loop.example/wholecheck/laws.FnSets", spec := "fnSets", unfollowed := true, recurses := true, apart := false, narrowed := true }
def FnSetsUptoSaid : Prop := fnSetsUptoRow.holds Try.pinned (OpenSpec.upto fnSetsSpec)

end Rows
end Go.Proofs.Ytpfkgmcbogcmoaa
