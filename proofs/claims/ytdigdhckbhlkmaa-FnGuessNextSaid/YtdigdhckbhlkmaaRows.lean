/-
  No cell of these rows narrows 'for every input' (looked for: loops, veiled, ifaces, maps, wideKeys, modest, calm, conditions, laid).
  DERIVED. THE GIVEN ROWS OF THIS SEAT. 9 by the template 'for every input the law returns true; each argument reads behind the call as it read before'; 0 by the template 'total and deterministic' (their statements: YtdigdhckbhlkmaaTotals.lean).
  GIVEN WITH THE SEED: the statements are not yours to turn. If you find one false, say at which input.
  Laid BY PROGRAM, IN A SANDBOX (cutbox-rows.mjs): the forced cells as the released guide's own fill.sh prints them over the translation b0cd93ad2b23f9a3… (all of the seat's roots in one cut). By AI agents, Wed Nov 11 2026. No macro, syntax, notation, axiom, sorry.
-/
import Derived.Test.YtdigdhckbhlkmaaChecked
import GoSem.Claim
import GoSem.ClaimJoined
import GoSem.ClaimMapViews
import Derived.JoinedTies
import Derived.KernelRfl
namespace Go.Proofs.Ytdigdhckbhlkmaa
/- THE CELL 'sum', in the pinned program and in every row, IS THE sha256 OF THE DUMP (.gsa) THAT YtdigdhckbhlkmaaProg.lean LOADS. Nothing in Lean hashes anything: it is a label: what it is worth is what the hold of that sum in a sandbox is worth. -/
noncomputable def Try.pinned : Pinned := { name := "ytdigdhckbhlkmaa", sum := "b0cd93ad2b23f9a3e37ad848c5b438dc432fa6e2a5b34029252060931a79e455", checked := Try.checked }
namespace Rows
def none {H : Type} : Left H := { results := [], args := [] }

/-- 'laws.FnExactGuessNext': WHATEVER THE INPUT: true; the input reads as it did. -/
def fnExactGuessNextSpec : ChangeSpec := { name := "fnExactGuessNext", fn := fun _ => fun
  | [d1, d2, d3, d4] => { results := [.lit (.bool true)], args := [d1, d2, d3, d4] }
  | _ => none }
def fnExactGuessNextRow : OpenClaim := { program := "ytdigdhckbhlkmaa", sum := "b0cd93ad2b23f9a3e37ad848c5b438dc432fa6e2a5b34029252060931a79e455", func := "loop.example/wholecheck/laws.FnExactGuessNext", spec := "fnExactGuessNext", apart := false }
def FnExactGuessNextSaid : Prop := fnExactGuessNextRow.holds Try.pinned (OpenSpec.ofChange fnExactGuessNextSpec)

/-- ITS FALSE NEIGHBOUR: 'it returns false'. Refute it at one input. -/
def fnExactGuessNextWrong : ChangeSpec := { name := "fnExactGuessNext", fn := fun _ => fun
  | [d1, d2, d3, d4] => { results := [.lit (.bool false)], args := [d1, d2, d3, d4] }
  | _ => none }
def FnExactGuessNextWrongFalsely : Prop := fnExactGuessNextRow.holds Try.pinned (OpenSpec.ofChange fnExactGuessNextWrong)

/-- 'laws.FnGuessNext': WHATEVER THE INPUT: true; the input reads as it did. -/
def fnGuessNextSpec : ChangeSpec := { name := "fnGuessNext", fn := fun _ => fun
  | [d] => { results := [.lit (.bool true)], args := [d] }
  | _ => none }
def fnGuessNextRow : OpenClaim := { program := "ytdigdhckbhlkmaa", sum := "b0cd93ad2b23f9a3e37ad848c5b438dc432fa6e2a5b34029252060931a79e455", func := "loop.example/wholecheck/laws.FnGuessNext", spec := "fnGuessNext", apart := false }
def FnGuessNextSaid : Prop := fnGuessNextRow.holds Try.pinned (OpenSpec.ofChange fnGuessNextSpec)

/-- ITS FALSE NEIGHBOUR: 'it returns false'. Refute it at one input. -/
def fnGuessNextWrong : ChangeSpec := { name := "fnGuessNext", fn := fun _ => fun
  | [d] => { results := [.lit (.bool false)], args := [d] }
  | _ => none }
def FnGuessNextWrongFalsely : Prop := fnGuessNextRow.holds Try.pinned (OpenSpec.ofChange fnGuessNextWrong)

/-- 'laws.FnExactGuessTruths': WHATEVER THE INPUT: true; the input reads as it did. -/
def fnExactGuessTruthsSpec : ChangeSpec := { name := "fnExactGuessTruths", fn := fun _ => fun
  | [d1, d2, d3] => { results := [.lit (.bool true)], args := [d1, d2, d3] }
  | _ => none }
def fnExactGuessTruthsRow : OpenClaim := { program := "ytdigdhckbhlkmaa", sum := "b0cd93ad2b23f9a3e37ad848c5b438dc432fa6e2a5b34029252060931a79e455", func := "loop.example/wholecheck/laws.FnExactGuessTruths", spec := "fnExactGuessTruths", apart := false }
def FnExactGuessTruthsSaid : Prop := fnExactGuessTruthsRow.holds Try.pinned (OpenSpec.ofChange fnExactGuessTruthsSpec)

/-- ITS FALSE NEIGHBOUR: 'it returns false'. Refute it at one input. -/
def fnExactGuessTruthsWrong : ChangeSpec := { name := "fnExactGuessTruths", fn := fun _ => fun
  | [d1, d2, d3] => { results := [.lit (.bool false)], args := [d1, d2, d3] }
  | _ => none }
def FnExactGuessTruthsWrongFalsely : Prop := fnExactGuessTruthsRow.holds Try.pinned (OpenSpec.ofChange fnExactGuessTruthsWrong)

/-- 'laws.FnGuessTruths': WHATEVER THE INPUT: true; the input reads as it did. -/
def fnGuessTruthsSpec : ChangeSpec := { name := "fnGuessTruths", fn := fun _ => fun
  | [d] => { results := [.lit (.bool true)], args := [d] }
  | _ => none }
def fnGuessTruthsRow : OpenClaim := { program := "ytdigdhckbhlkmaa", sum := "b0cd93ad2b23f9a3e37ad848c5b438dc432fa6e2a5b34029252060931a79e455", func := "loop.example/wholecheck/laws.FnGuessTruths", spec := "fnGuessTruths", apart := false }
def FnGuessTruthsSaid : Prop := fnGuessTruthsRow.holds Try.pinned (OpenSpec.ofChange fnGuessTruthsSpec)

/-- ITS FALSE NEIGHBOUR: 'it returns false'. Refute it at one input. -/
def fnGuessTruthsWrong : ChangeSpec := { name := "fnGuessTruths", fn := fun _ => fun
  | [d] => { results := [.lit (.bool false)], args := [d] }
  | _ => none }
def FnGuessTruthsWrongFalsely : Prop := fnGuessTruthsRow.holds Try.pinned (OpenSpec.ofChange fnGuessTruthsWrong)

/-- 'laws.FnExactGuessKept': WHATEVER THE INPUT: true; the input reads as it did. -/
def fnExactGuessKeptSpec : ChangeSpec := { name := "fnExactGuessKept", fn := fun _ => fun
  | [d1, d2, d3] => { results := [.lit (.bool true)], args := [d1, d2, d3] }
  | _ => none }
def fnExactGuessKeptRow : OpenClaim := { program := "ytdigdhckbhlkmaa", sum := "b0cd93ad2b23f9a3e37ad848c5b438dc432fa6e2a5b34029252060931a79e455", func := "loop.example/wholecheck/laws.FnExactGuessKept", spec := "fnExactGuessKept", apart := false }
def FnExactGuessKeptSaid : Prop := fnExactGuessKeptRow.holds Try.pinned (OpenSpec.ofChange fnExactGuessKeptSpec)

/-- ITS FALSE NEIGHBOUR: 'it returns false'. Refute it at one input. -/
def fnExactGuessKeptWrong : ChangeSpec := { name := "fnExactGuessKept", fn := fun _ => fun
  | [d1, d2, d3] => { results := [.lit (.bool false)], args := [d1, d2, d3] }
  | _ => none }
def FnExactGuessKeptWrongFalsely : Prop := fnExactGuessKeptRow.holds Try.pinned (OpenSpec.ofChange fnExactGuessKeptWrong)

/-- 'laws.FnUnrolled': WHATEVER THE INPUT: true; the input reads as it did. -/
def fnUnrolledSpec : ChangeSpec := { name := "fnUnrolled", fn := fun _ => fun
  | [d] => { results := [.lit (.bool true)], args := [d] }
  | _ => none }
def fnUnrolledRow : OpenClaim := { program := "ytdigdhckbhlkmaa", sum := "b0cd93ad2b23f9a3e37ad848c5b438dc432fa6e2a5b34029252060931a79e455", func := "loop.example/wholecheck/laws.FnUnrolled", spec := "fnUnrolled", unfollowed := true, recurses := true, apart := false }
def FnUnrolledSaid : Prop := fnUnrolledRow.holds Try.pinned (OpenSpec.ofChange fnUnrolledSpec)

/-- ITS FALSE NEIGHBOUR: 'it returns false'. Refute it at one input. -/
def fnUnrolledWrong : ChangeSpec := { name := "fnUnrolled", fn := fun _ => fun
  | [d] => { results := [.lit (.bool false)], args := [d] }
  | _ => none }
def FnUnrolledWrongFalsely : Prop := fnUnrolledRow.holds Try.pinned (OpenSpec.ofChange fnUnrolledWrong)

/-- 'laws.FnTimesOn': WHATEVER THE INPUT: true; the input reads as it did. -/
def fnTimesOnSpec : ChangeSpec := { name := "fnTimesOn", fn := fun _ => fun
  | [d] => { results := [.lit (.bool true)], args := [d] }
  | _ => none }
def fnTimesOnRow : OpenClaim := { program := "ytdigdhckbhlkmaa", sum := "b0cd93ad2b23f9a3e37ad848c5b438dc432fa6e2a5b34029252060931a79e455", func := "loop.example/wholecheck/laws.FnTimesOn", spec := "fnTimesOn", unfollowed := true, recurses := true, apart := false }
def FnTimesOnSaid : Prop := fnTimesOnRow.holds Try.pinned (OpenSpec.ofChange fnTimesOnSpec)

/-- ITS FALSE NEIGHBOUR: 'it returns false'. Refute it at one input. -/
def fnTimesOnWrong : ChangeSpec := { name := "fnTimesOn", fn := fun _ => fun
  | [d] => { results := [.lit (.bool false)], args := [d] }
  | _ => none }
def FnTimesOnWrongFalsely : Prop := fnTimesOnRow.holds Try.pinned (OpenSpec.ofChange fnTimesOnWrong)

/-- 'laws.FnExactTimesOn': WHATEVER THE INPUT: true; the input reads as it did. -/
def fnExactTimesOnSpec : ChangeSpec := { name := "fnExactTimesOn", fn := fun _ => fun
  | [d1, d2, d3, d4] => { results := [.lit (.bool true)], args := [d1, d2, d3, d4] }
  | _ => none }
def fnExactTimesOnRow : OpenClaim := { program := "ytdigdhckbhlkmaa", sum := "b0cd93ad2b23f9a3e37ad848c5b438dc432fa6e2a5b34029252060931a79e455", func := "loop.example/wholecheck/laws.FnExactTimesOn", spec := "fnExactTimesOn", unfollowed := true, recurses := true, apart := false }
def FnExactTimesOnSaid : Prop := fnExactTimesOnRow.holds Try.pinned (OpenSpec.ofChange fnExactTimesOnSpec)

/-- ITS FALSE NEIGHBOUR: 'it returns false'. Refute it at one input. -/
def fnExactTimesOnWrong : ChangeSpec := { name := "fnExactTimesOn", fn := fun _ => fun
  | [d1, d2, d3, d4] => { results := [.lit (.bool false)], args := [d1, d2, d3, d4] }
  | _ => none }
def FnExactTimesOnWrongFalsely : Prop := fnExactTimesOnRow.holds Try.pinned (OpenSpec.ofChange fnExactTimesOnWrong)

/-- 'laws.FnExactHoldsOn': WHATEVER THE INPUT: true; the input reads as it did. -/
def fnExactHoldsOnSpec : ChangeSpec := { name := "fnExactHoldsOn", fn := fun _ => fun
  | [d1, d2, d3, d4] => { results := [.lit (.bool true)], args := [d1, d2, d3, d4] }
  | _ => none }
def fnExactHoldsOnRow : OpenClaim := { program := "ytdigdhckbhlkmaa", sum := "b0cd93ad2b23f9a3e37ad848c5b438dc432fa6e2a5b34029252060931a79e455", func := "loop.example/wholecheck/laws.FnExactHoldsOn", spec := "fnExactHoldsOn", unfollowed := true, recurses := true, apart := false }
def FnExactHoldsOnSaid : Prop := fnExactHoldsOnRow.holds Try.pinned (OpenSpec.ofChange fnExactHoldsOnSpec)

/-- ITS FALSE NEIGHBOUR: 'it returns false'. Refute it at one input. -/
def fnExactHoldsOnWrong : ChangeSpec := { name := "fnExactHoldsOn", fn := fun _ => fun
  | [d1, d2, d3, d4] => { results := [.lit (.bool false)], args := [d1, d2, d3, d4] }
  | _ => none }
def FnExactHoldsOnWrongFalsely : Prop := fnExactHoldsOnRow.holds Try.pinned (OpenSpec.ofChange fnExactHoldsOnWrong)

/- THE SECOND FORM. 'bulk': how many values and letters a reading holds, each counted each time it is reached (what is shared counts as often as it is met; a slice's spare places count too). A statement '..UptoSaid' is the law's where the arguments, and the package variables that the reading takes, are together of bulk at most 1048576: NARROWER than '..Said'. Prove '..Said' where nothing that the law and all that it calls make is longer than what came in: it says more and counts as full. Else prove '..UptoSaid'. A law counts once. -/
mutual
def uptoBulk {H : Type} : DataW H → Nat
  | .lit (.string bytes) => bytes.length + 1
  | .lit _ => 1
  | .nil => 1
  | .ptr d => uptoBulk d + 1
  | .slice elems spare => uptoBulkAll elems + uptoBulkAll spare + 1
  | .agg parts => uptoBulkAll parts + 1
  | .iface _ d => uptoBulk d + 1
  | .map entries => uptoBulkEntries entries + 1
  | .held _ => 1
def uptoBulkAll {H : Type} : List (DataW H) → Nat
  | [] => 0
  | d :: r => uptoBulk d + uptoBulkAll r
def uptoBulkEntries {H : Type} : List (Lit × DataW H) → Nat
  | [] => 0
  | x :: r => uptoBulkEntry x + uptoBulkEntries r
def uptoBulkEntry {H : Type} : Lit × DataW H → Nat
  | (.string bytes, d) => bytes.length + uptoBulk d + 1
  | (_, d) => uptoBulk d + 1
 end
def uptoSmall : (H : Type) → List (DataW H) → Bool := fun _ ds => decide (uptoBulkAll ds ≤ 1048576)
def OpenSpec.upto (s : _root_.Go.ChangeSpec) : _root_.Go.OpenSpec := { _root_.Go.OpenSpec.ofChange s with cond := some uptoSmall }

/-- 'laws.FnExactGuessNext', WHERE WHAT IT READS IS OF BULK AT MOST 1048576: true; the input reads as it did. -/
def fnExactGuessNextUptoRow : OpenClaim := { program := "ytdigdhckbhlkmaa", sum := "b0cd93ad2b23f9a3e37ad848c5b438dc432fa6e2a5b34029252060931a79e455", func := "loop.example/wholecheck/laws.FnExactGuessNext", spec := "fnExactGuessNext", apart := false, narrowed := true }
def FnExactGuessNextUptoSaid : Prop := fnExactGuessNextUptoRow.holds Try.pinned (OpenSpec.upto fnExactGuessNextSpec)

/-- 'laws.FnGuessNext', WHERE WHAT IT READS IS OF BULK AT MOST 1048576: true; the input reads as it did. -/
def fnGuessNextUptoRow : OpenClaim := { program := "ytdigdhckbhlkmaa", sum := "b0cd93ad2b23f9a3e37ad848c5b438dc432fa6e2a5b34029252060931a79e455", func := "loop.example/wholecheck/laws.FnGuessNext", spec := "fnGuessNext", apart := false, narrowed := true }
def FnGuessNextUptoSaid : Prop := fnGuessNextUptoRow.holds Try.pinned (OpenSpec.upto fnGuessNextSpec)

/-- 'laws.FnExactGuessTruths', WHERE WHAT IT READS IS OF BULK AT MOST 1048576: true; the input reads as it did. -/
def fnExactGuessTruthsUptoRow : OpenClaim := { program := "ytdigdhckbhlkmaa", sum := "b0cd93ad2b23f9a3e37ad848c5b438dc432fa6e2a5b34029252060931a79e455", func := "loop.example/wholecheck/laws.FnExactGuessTruths", spec := "fnExactGuessTruths", apart := false, narrowed := true }
def FnExactGuessTruthsUptoSaid : Prop := fnExactGuessTruthsUptoRow.holds Try.pinned (OpenSpec.upto fnExactGuessTruthsSpec)

/-- 'laws.FnGuessTruths', WHERE WHAT IT READS IS OF BULK AT MOST 1048576: true; the input reads as it did. -/
def fnGuessTruthsUptoRow : OpenClaim := { program := "ytdigdhckbhlkmaa", sum := "b0cd93ad2b23f9a3e37ad848c5b438dc432fa6e2a5b34029252060931a79e455", func := "loop.example/wholecheck/laws.FnGuessTruths", spec := "fnGuessTruths", apart := false, narrowed := true }
def FnGuessTruthsUptoSaid : Prop := fnGuessTruthsUptoRow.holds Try.pinned (OpenSpec.upto fnGuessTruthsSpec)

/-- 'laws.FnExactGuessKept', WHERE WHAT IT READS IS OF BULK AT MOST 1048576: true; the input reads as it did. -/
def fnExactGuessKeptUptoRow : OpenClaim := { program := "ytdigdhckbhlkmaa", sum := "b0cd93ad2b23f9a3e37ad848c5b438dc432fa6e2a5b34029252060931a79e455", func := "loop.example/wholecheck/laws.FnExactGuessKept", spec := "fnExactGuessKept", apart := false, narrowed := true }
def FnExactGuessKeptUptoSaid : Prop := fnExactGuessKeptUptoRow.holds Try.pinned (OpenSpec.upto fnExactGuessKeptSpec)

/-- 'laws.FnUnrolled', WHERE WHAT IT READS IS OF BULK AT MOST 1048576: true; the input reads as it did. -/
def fnUnrolledUptoRow : OpenClaim := { program := "ytdigdhckbhlkmaa", sum := "b0cd93ad2b23f9a3e37ad848c5b438dc432fa6e2a5b34029252060931a79e455", func := "loop.example/wholecheck/laws.FnUnrolled", spec := "fnUnrolled", unfollowed := true, recurses := true, apart := false, narrowed := true }
def FnUnrolledUptoSaid : Prop := fnUnrolledUptoRow.holds Try.pinned (OpenSpec.upto fnUnrolledSpec)

/-- 'laws.FnTimesOn', WHERE WHAT IT READS IS OF BULK AT MOST 1048576: true; the input reads as it did. -/
def fnTimesOnUptoRow : OpenClaim := { program := "ytdigdhckbhlkmaa", sum := "b0cd93ad2b23f9a3e37ad848c5b438dc432fa6e2a5b34029252060931a79e455", func := "loop.example/wholecheck/laws.FnTimesOn", spec := "fnTimesOn", unfollowed := true, recurses := true, apart := false, narrowed := true }
def FnTimesOnUptoSaid : Prop := fnTimesOnUptoRow.holds Try.pinned (OpenSpec.upto fnTimesOnSpec)

/-- 'laws.FnExactTimesOn', WHERE WHAT IT READS IS OF BULK AT MOST 1048576: true; the input reads as it did. -/
def fnExactTimesOnUptoRow : OpenClaim := { program := "ytdigdhckbhlkmaa", sum := "b0cd93ad2b23f9a3e37ad848c5b438dc432fa6e2a5b34029252060931a79e455", func := "loop.example/wholecheck/laws.FnExactTimesOn", spec := "fnExactTimesOn", unfollowed := true, recurses := true, apart := false, narrowed := true }
def FnExactTimesOnUptoSaid : Prop := fnExactTimesOnUptoRow.holds Try.pinned (OpenSpec.upto fnExactTimesOnSpec)

/-- 'laws.FnExactHoldsOn', WHERE WHAT IT READS IS OF BULK AT MOST 1048576: true; the input reads as it did. -/
def fnExactHoldsOnUptoRow : OpenClaim := { program := "ytdigdhckbhlkmaa", sum := "b0cd93ad2b23f9a3e37ad848c5b438dc432fa6e2a5b34029252060931a79e455", func := "loop.example/wholecheck/laws.FnExactHoldsOn", spec := "fnExactHoldsOn", unfollowed := true, recurses := true, apart := false, narrowed := true }
def FnExactHoldsOnUptoSaid : Prop := fnExactHoldsOnUptoRow.holds Try.pinned (OpenSpec.upto fnExactHoldsOnSpec)

end Rows
end Go.Proofs.Ytdigdhckbhlkmaa
