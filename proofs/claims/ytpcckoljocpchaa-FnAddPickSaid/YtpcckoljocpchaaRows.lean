/-
  No cell of these rows narrows 'for every input' (looked for: loops, veiled, ifaces, maps, wideKeys, modest, calm, conditions, laid).
  DERIVED. THE GIVEN ROWS OF THIS SEAT. 9 by the template 'for every input the law returns true; each argument reads behind the call as it read before'; 0 by the template 'total and deterministic' (their statements: YtpcckoljocpchaaTotals.lean).
  GIVEN WITH THE SEED: the statements are not yours to turn. If you find one false, say at which input.
  Laid BY PROGRAM, IN A SANDBOX (cutbox-rows.mjs): the forced cells as the released guide's own fill.sh prints them over the translation 10d8fdc100d711d2… (all of the seat's roots in one cut). By AI agents, Wed Nov 11 2026. No macro, syntax, notation, axiom, sorry.
-/
import Derived.Test.YtpcckoljocpchaaChecked
import GoSem.Claim
import GoSem.ClaimJoined
import GoSem.ClaimMapViews
import Derived.JoinedTies
import Derived.KernelRfl
namespace Go.Proofs.Ytpcckoljocpchaa
/- THE CELL 'sum', in the pinned program and in every row, IS THE sha256 OF THE DUMP (.gsa) THAT YtpcckoljocpchaaProg.lean LOADS. Nothing in Lean hashes anything: it is a label: what it is worth is what the hold of that sum in a sandbox is worth. -/
noncomputable def Try.pinned : Pinned := { name := "ytpcckoljocpchaa", sum := "10d8fdc100d711d27628a40c7cff2bfb7f517db9f32a1fae3b9062abdf708562", checked := Try.checked }
namespace Rows
def none {H : Type} : Left H := { results := [], args := [] }

/-- 'laws.FnExactAddPick': WHATEVER THE INPUT: true; the input reads as it did. -/
def fnExactAddPickSpec : ChangeSpec := { name := "fnExactAddPick", fn := fun _ => fun
  | [d1, d2, d3, d4] => { results := [.lit (.bool true)], args := [d1, d2, d3, d4] }
  | _ => none }
def fnExactAddPickRow : OpenClaim := { program := "ytpcckoljocpchaa", sum := "10d8fdc100d711d27628a40c7cff2bfb7f517db9f32a1fae3b9062abdf708562", func := "loop.example/wholecheck/laws.FnExactAddPick", spec := "fnExactAddPick", plainKeys := false, apart := false }
def FnExactAddPickSaid : Prop := fnExactAddPickRow.holds Try.pinned (OpenSpec.ofChange fnExactAddPickSpec)

/-- ITS FALSE NEIGHBOUR: 'it returns false'. Refute it at one input. -/
def fnExactAddPickWrong : ChangeSpec := { name := "fnExactAddPick", fn := fun _ => fun
  | [d1, d2, d3, d4] => { results := [.lit (.bool false)], args := [d1, d2, d3, d4] }
  | _ => none }
def FnExactAddPickWrongFalsely : Prop := fnExactAddPickRow.holds Try.pinned (OpenSpec.ofChange fnExactAddPickWrong)

/-- 'laws.FnAddPick': WHATEVER THE INPUT: true; the input reads as it did. -/
def fnAddPickSpec : ChangeSpec := { name := "fnAddPick", fn := fun _ => fun
  | [d] => { results := [.lit (.bool true)], args := [d] }
  | _ => none }
def fnAddPickRow : OpenClaim := { program := "ytpcckoljocpchaa", sum := "10d8fdc100d711d27628a40c7cff2bfb7f517db9f32a1fae3b9062abdf708562", func := "loop.example/wholecheck/laws.FnAddPick", spec := "fnAddPick", unfollowed := true, recurses := true, plainKeys := false, apart := false }
def FnAddPickSaid : Prop := fnAddPickRow.holds Try.pinned (OpenSpec.ofChange fnAddPickSpec)

/-- ITS FALSE NEIGHBOUR: 'it returns false'. Refute it at one input. -/
def fnAddPickWrong : ChangeSpec := { name := "fnAddPick", fn := fun _ => fun
  | [d] => { results := [.lit (.bool false)], args := [d] }
  | _ => none }
def FnAddPickWrongFalsely : Prop := fnAddPickRow.holds Try.pinned (OpenSpec.ofChange fnAddPickWrong)

/-- 'laws.FnExactFixed': WHATEVER THE INPUT: true; the input reads as it did. -/
def fnExactFixedSpec : ChangeSpec := { name := "fnExactFixed", fn := fun _ => fun
  | [d1, d2, d3, d4] => { results := [.lit (.bool true)], args := [d1, d2, d3, d4] }
  | _ => none }
def fnExactFixedRow : OpenClaim := { program := "ytpcckoljocpchaa", sum := "10d8fdc100d711d27628a40c7cff2bfb7f517db9f32a1fae3b9062abdf708562", func := "loop.example/wholecheck/laws.FnExactFixed", spec := "fnExactFixed", plainKeys := false, apart := false }
def FnExactFixedSaid : Prop := fnExactFixedRow.holds Try.pinned (OpenSpec.ofChange fnExactFixedSpec)

/-- ITS FALSE NEIGHBOUR: 'it returns false'. Refute it at one input. -/
def fnExactFixedWrong : ChangeSpec := { name := "fnExactFixed", fn := fun _ => fun
  | [d1, d2, d3, d4] => { results := [.lit (.bool false)], args := [d1, d2, d3, d4] }
  | _ => none }
def FnExactFixedWrongFalsely : Prop := fnExactFixedRow.holds Try.pinned (OpenSpec.ofChange fnExactFixedWrong)

/-- 'laws.FnFixed': WHATEVER THE INPUT: true; the input reads as it did. -/
def fnFixedSpec : ChangeSpec := { name := "fnFixed", fn := fun _ => fun
  | [d] => { results := [.lit (.bool true)], args := [d] }
  | _ => none }
def fnFixedRow : OpenClaim := { program := "ytpcckoljocpchaa", sum := "10d8fdc100d711d27628a40c7cff2bfb7f517db9f32a1fae3b9062abdf708562", func := "loop.example/wholecheck/laws.FnFixed", spec := "fnFixed", unfollowed := true, recurses := true, plainKeys := false, apart := false }
def FnFixedSaid : Prop := fnFixedRow.holds Try.pinned (OpenSpec.ofChange fnFixedSpec)

/-- ITS FALSE NEIGHBOUR: 'it returns false'. Refute it at one input. -/
def fnFixedWrong : ChangeSpec := { name := "fnFixed", fn := fun _ => fun
  | [d] => { results := [.lit (.bool false)], args := [d] }
  | _ => none }
def FnFixedWrongFalsely : Prop := fnFixedRow.holds Try.pinned (OpenSpec.ofChange fnFixedWrong)

/-- 'laws.FnReorderBack': WHATEVER THE INPUT: true; the input reads as it did. -/
def fnReorderBackSpec : ChangeSpec := { name := "fnReorderBack", fn := fun _ => fun
  | [d] => { results := [.lit (.bool true)], args := [d] }
  | _ => none }
def fnReorderBackRow : OpenClaim := { program := "ytpcckoljocpchaa", sum := "10d8fdc100d711d27628a40c7cff2bfb7f517db9f32a1fae3b9062abdf708562", func := "loop.example/wholecheck/laws.FnReorderBack", spec := "fnReorderBack", unfollowed := true, recurses := true, plainKeys := false, apart := false }
def FnReorderBackSaid : Prop := fnReorderBackRow.holds Try.pinned (OpenSpec.ofChange fnReorderBackSpec)

/-- ITS FALSE NEIGHBOUR: 'it returns false'. Refute it at one input. -/
def fnReorderBackWrong : ChangeSpec := { name := "fnReorderBack", fn := fun _ => fun
  | [d] => { results := [.lit (.bool false)], args := [d] }
  | _ => none }
def FnReorderBackWrongFalsely : Prop := fnReorderBackRow.holds Try.pinned (OpenSpec.ofChange fnReorderBackWrong)

/-- 'laws.FnExactCompacted': WHATEVER THE INPUT: true; the input reads as it did. -/
def fnExactCompactedSpec : ChangeSpec := { name := "fnExactCompacted", fn := fun _ => fun
  | [d1, d2] => { results := [.lit (.bool true)], args := [d1, d2] }
  | _ => none }
def fnExactCompactedRow : OpenClaim := { program := "ytpcckoljocpchaa", sum := "10d8fdc100d711d27628a40c7cff2bfb7f517db9f32a1fae3b9062abdf708562", func := "loop.example/wholecheck/laws.FnExactCompacted", spec := "fnExactCompacted", unfollowed := true, recurses := true, plainKeys := false, apart := false }
def FnExactCompactedSaid : Prop := fnExactCompactedRow.holds Try.pinned (OpenSpec.ofChange fnExactCompactedSpec)

/-- ITS FALSE NEIGHBOUR: 'it returns false'. Refute it at one input. -/
def fnExactCompactedWrong : ChangeSpec := { name := "fnExactCompacted", fn := fun _ => fun
  | [d1, d2] => { results := [.lit (.bool false)], args := [d1, d2] }
  | _ => none }
def FnExactCompactedWrongFalsely : Prop := fnExactCompactedRow.holds Try.pinned (OpenSpec.ofChange fnExactCompactedWrong)

/-- 'laws.FnCompacted': WHATEVER THE INPUT: true; the input reads as it did. -/
def fnCompactedSpec : ChangeSpec := { name := "fnCompacted", fn := fun _ => fun
  | [d] => { results := [.lit (.bool true)], args := [d] }
  | _ => none }
def fnCompactedRow : OpenClaim := { program := "ytpcckoljocpchaa", sum := "10d8fdc100d711d27628a40c7cff2bfb7f517db9f32a1fae3b9062abdf708562", func := "loop.example/wholecheck/laws.FnCompacted", spec := "fnCompacted", unfollowed := true, recurses := true, plainKeys := false, apart := false }
def FnCompactedSaid : Prop := fnCompactedRow.holds Try.pinned (OpenSpec.ofChange fnCompactedSpec)

/-- ITS FALSE NEIGHBOUR: 'it returns false'. Refute it at one input. -/
def fnCompactedWrong : ChangeSpec := { name := "fnCompacted", fn := fun _ => fun
  | [d] => { results := [.lit (.bool false)], args := [d] }
  | _ => none }
def FnCompactedWrongFalsely : Prop := fnCompactedRow.holds Try.pinned (OpenSpec.ofChange fnCompactedWrong)

/-- 'laws.FnExactSwapOrder': WHATEVER THE INPUT: true; the input reads as it did. -/
def fnExactSwapOrderSpec : ChangeSpec := { name := "fnExactSwapOrder", fn := fun _ => fun
  | [d1, d2, d3] => { results := [.lit (.bool true)], args := [d1, d2, d3] }
  | _ => none }
def fnExactSwapOrderRow : OpenClaim := { program := "ytpcckoljocpchaa", sum := "10d8fdc100d711d27628a40c7cff2bfb7f517db9f32a1fae3b9062abdf708562", func := "loop.example/wholecheck/laws.FnExactSwapOrder", spec := "fnExactSwapOrder", unfollowed := true, recurses := true, plainKeys := false, apart := false }
def FnExactSwapOrderSaid : Prop := fnExactSwapOrderRow.holds Try.pinned (OpenSpec.ofChange fnExactSwapOrderSpec)

/-- ITS FALSE NEIGHBOUR: 'it returns false'. Refute it at one input. -/
def fnExactSwapOrderWrong : ChangeSpec := { name := "fnExactSwapOrder", fn := fun _ => fun
  | [d1, d2, d3] => { results := [.lit (.bool false)], args := [d1, d2, d3] }
  | _ => none }
def FnExactSwapOrderWrongFalsely : Prop := fnExactSwapOrderRow.holds Try.pinned (OpenSpec.ofChange fnExactSwapOrderWrong)

/-- 'laws.FnExactReordered': WHATEVER THE INPUT: true; the input reads as it did. -/
def fnExactReorderedSpec : ChangeSpec := { name := "fnExactReordered", fn := fun _ => fun
  | [d1, d2, d3] => { results := [.lit (.bool true)], args := [d1, d2, d3] }
  | _ => none }
def fnExactReorderedRow : OpenClaim := { program := "ytpcckoljocpchaa", sum := "10d8fdc100d711d27628a40c7cff2bfb7f517db9f32a1fae3b9062abdf708562", func := "loop.example/wholecheck/laws.FnExactReordered", spec := "fnExactReordered", unfollowed := true, recurses := true, plainKeys := false, apart := false }
def FnExactReorderedSaid : Prop := fnExactReorderedRow.holds Try.pinned (OpenSpec.ofChange fnExactReorderedSpec)

/-- ITS FALSE NEIGHBOUR: 'it returns false'. Refute it at one input. -/
def fnExactReorderedWrong : ChangeSpec := { name := "fnExactReordered", fn := fun _ => fun
  | [d1, d2, d3] => { results := [.lit (.bool false)], args := [d1, d2, d3] }
  | _ => none }
def FnExactReorderedWrongFalsely : Prop := fnExactReorderedRow.holds Try.pinned (OpenSpec.ofChange fnExactReorderedWrong)

/- THE SECOND FORM. 'bulk': how many values and letters a reading holds, each counted each time it is reached (what is shared counts as often as it is met; a slice's spare places count too). A statement '..UptoSaid' is the law's where the arguments, and the package variables that the reading takes, are together of bulk at most 1048576: NARROWER than '..Said'. Prove '..Said' where nothing that the law and all that it calls make is longer than what came in: it says more and counts as full. Else prove '..UptoSaid'. A law counts once. -/
mutual
def uptoBulk {H : Type} : DataW H → Nat
  | .lit (.string bytes) => bytes.length + 1
  | .lit _ => 1
  | .nil => 1
  | .ptr d => uptoBulk d + 1
  | .slice elems spare => uptoBulkAll elems + uptoBulkAll spare + 1
  | .agg parts => uptoBulkAll parts + 1
  | .iface _ d => uptoBulk d + 1
  | .map entries => uptoBulkEntries entries + 1
  | .held _ => 1
def uptoBulkAll {H : Type} : List (DataW H) → Nat
  | [] => 0
  | d :: r => uptoBulk d + uptoBulkAll r
def uptoBulkEntries {H : Type} : List (Lit × DataW H) → Nat
  | [] => 0
  | x :: r => uptoBulkEntry x + uptoBulkEntries r
def uptoBulkEntry {H : Type} : Lit × DataW H → Nat
  | (.string bytes, d) => bytes.length + uptoBulk d + 1
  | (_, d) => uptoBulk d + 1
 end
def uptoSmall : (H : Type) → List (DataW H) → Bool := fun _ ds => decide (uptoBulkAll ds ≤ 1048576)
def OpenSpec.upto (s : _root_.Go.ChangeSpec) : _root_.Go.OpenSpec := { _root_.Go.OpenSpec.ofChange s with cond := some uptoSmall }

/-- 'laws.FnExactAddPick', WHERE WHAT IT READS IS OF BULK AT MOST 1048576: true; the input reads as it did. -/
def fnExactAddPickUptoRow : OpenClaim := { program := "ytpcckoljocpchaa", sum := "10d8fdc100d711d27628a40c7cff2bfb7f517db9f32a1fae3b9062abdf708562", func := "loop.example/wholecheck/laws.FnExactAddPick", spec := "fnExactAddPick", plainKeys := false, apart := false, narrowed := true }
def FnExactAddPickUptoSaid : Prop := fnExactAddPickUptoRow.holds Try.pinned (OpenSpec.upto fnExactAddPickSpec)

/-- 'laws.FnAddPick', WHERE WHAT IT READS IS OF BULK AT MOST 1048576: true; the input reads as it did. -/
def fnAddPickUptoRow : OpenClaim := { program := "ytpcckoljocpchaa", sum := "10d8fdc100d711d27628a40c7cff2bfb7f517db9f32a1fae3b9062abdf708562", func := "loop.example/wholecheck/laws.FnAddPick", spec := "fnAddPick", unfollowed := true, recurses := true, plainKeys := false, apart := false, narrowed := true }
def FnAddPickUptoSaid : Prop := fnAddPickUptoRow.holds Try.pinned (OpenSpec.upto fnAddPickSpec)

/-- 'laws.FnExactFixed', WHERE WHAT IT READS IS OF BULK AT MOST 1048576: true; the input reads as it did. -/
def fnExactFixedUptoRow : OpenClaim := { program := "ytpcckoljocpchaa", sum := "10d8fdc100d711d27628a40c7cff2bfb7f517db9f32a1fae3b9062abdf708562", func := "loop.example/wholecheck/laws.FnExactFixed", spec := "fnExactFixed", plainKeys := false, apart := false, narrowed := true }
def FnExactFixedUptoSaid : Prop := fnExactFixedUptoRow.holds Try.pinned (OpenSpec.upto fnExactFixedSpec)

/-- 'laws.FnFixed', WHERE WHAT IT READS IS OF BULK AT MOST 1048576: true; the input reads as it did. -/
def fnFixedUptoRow : OpenClaim := { program := "ytpcckoljocpchaa", sum := "10d8fdc100d711d27628a40c7cff2bfb7f517db9f32a1fae3b9062abdf708562", func := "loop.example/wholecheck/laws.FnFixed", spec := "fnFixed", unfollowed := true, recurses := true, plainKeys := false, apart := false, narrowed := true }
def FnFixedUptoSaid : Prop := fnFixedUptoRow.holds Try.pinned (OpenSpec.upto fnFixedSpec)

/-- 'laws.FnReorderBack', WHERE WHAT IT READS IS OF BULK AT MOST 1048576: true; the input reads as it did. -/
def fnReorderBackUptoRow : OpenClaim := { program := "ytpcckoljocpchaa", sum := "10d8fdc100d711d27628a40c7cff2bfb7f517db9f32a1fae3b9062abdf708562", func := "loop.example/wholecheck/laws.FnReorderBack", spec := "fnReorderBack", unfollowed := true, recurses := true, plainKeys := false, apart := false, narrowed := true }
def FnReorderBackUptoSaid : Prop := fnReorderBackUptoRow.holds Try.pinned (OpenSpec.upto fnReorderBackSpec)

/-- 'laws.FnExactCompacted', WHERE WHAT IT READS IS OF BULK AT MOST 1048576: true; the input reads as it did. -/
def fnExactCompactedUptoRow : OpenClaim := { program := "ytpcckoljocpchaa", sum := "10d8fdc100d711d27628a40c7cff2bfb7f517db9f32a1fae3b9062abdf708562", func := "loop.example/wholecheck/laws.FnExactCompacted", spec := "fnExactCompacted", unfollowed := true, recurses := true, plainKeys := false, apart := false, narrowed := true }
def FnExactCompactedUptoSaid : Prop := fnExactCompactedUptoRow.holds Try.pinned (OpenSpec.upto fnExactCompactedSpec)

/-- 'laws.FnCompacted', WHERE WHAT IT READS IS OF BULK AT MOST 1048576: true; the input reads as it did. -/
def fnCompactedUptoRow : OpenClaim := { program := "ytpcckoljocpchaa", sum := "10d8fdc100d711d27628a40c7cff2bfb7f517db9f32a1fae3b9062abdf708562", func := "loop.example/wholecheck/laws.FnCompacted", spec := "fnCompacted", unfollowed := true, recurses := true, plainKeys := false, apart := false, narrowed := true }
def FnCompactedUptoSaid : Prop := fnCompactedUptoRow.holds Try.pinned (OpenSpec.upto fnCompactedSpec)

/-- 'laws.FnExactSwapOrder', WHERE WHAT IT READS IS OF BULK AT MOST 1048576: true; the input reads as it did. -/
def fnExactSwapOrderUptoRow : OpenClaim := { program := "ytpcckoljocpchaa", sum := "10d8fdc100d711d27628a40c7cff2bfb7f517db9f32a1fae3b9062abdf708562", func := "loop.example/wholecheck/laws.FnExactSwapOrder", spec := "fnExactSwapOrder", unfollowed := true, recurses := true, plainKeys := false, apart := false, narrowed := true }
def FnExactSwapOrderUptoSaid : Prop := fnExactSwapOrderUptoRow.holds Try.pinned (OpenSpec.upto fnExactSwapOrderSpec)

/-- 'laws.FnExactReordered', WHERE WHAT IT READS IS OF BULK AT MOST 1048576: true; the input reads as it did. -/
def fnExactReorderedUptoRow : OpenClaim := { program := "ytpcckoljocpchaa", sum := "10d8fdc100d711d27628a40c7cff2bfb7f517db9f32a1fae3b9062abdf708562", func := "loop.example/wholecheck/laws.FnExactReordered", spec := "fnExactReordered", unfollowed := true, recurses := true, plainKeys := false, apart := false, narrowed := true }
def FnExactReorderedUptoSaid : Prop := fnExactReorderedUptoRow.holds Try.pinned (OpenSpec.upto fnExactReorderedSpec)

end Rows
end Go.Proofs.Ytpcckoljocpchaa
