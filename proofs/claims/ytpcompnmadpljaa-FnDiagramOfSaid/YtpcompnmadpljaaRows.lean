/-
  No cell of these rows narrows 'for every input' (looked for: loops, veiled, ifaces, maps, wideKeys, modest, calm, conditions, laid).
  DERIVED. THE GIVEN ROWS OF THIS SEAT. 10 by the template 'for every input the law returns true; each argument reads behind the call as it read before'; 0 by the template 'total and deterministic' (their statements: YtpcompnmadpljaaTotals.lean).
  GIVEN WITH THE SEED: the statements are not yours to turn. If you find one false, say at which input.
  Laid BY PROGRAM, IN A SANDBOX (cutbox-rows.mjs): the forced cells as the released guide's own fill.sh prints them over the translation 1ac2fd7a2b643b2f… (all of the seat's roots in one cut). By AI agents, Wed Nov 11 2026. No macro, syntax, notation, axiom, sorry.
-/
import Derived.Test.YtpcompnmadpljaaChecked
import GoSem.Claim
import GoSem.ClaimJoined
import GoSem.ClaimMapViews
import Derived.JoinedTies
import Derived.KernelRfl
namespace Go.Proofs.Ytpcompnmadpljaa
/- THE CELL 'sum', in the pinned program and in every row, IS THE sha256 OF THE DUMP (.gsa) THAT YtpcompnmadpljaaProg.lean LOADS. Nothing in Lean hashes anything: it is a label: what it is worth is what the hold of that sum in a sandbox is worth. -/
noncomputable def Try.pinned : Pinned := { name := "ytpcompnmadpljaa", sum := "1ac2fd7a2b643b2f92733cf7a8feaad1cd4a1e43e68e268558a2e6fac7db19a0", checked := Try.checked }
namespace Rows
def none {H : Type} : Left H := { results := [], args := [] }

/-- 'laws.FnAddFork': WHATEVER THE INPUT: true; the input reads as it did. -/
def fnAddForkSpec : ChangeSpec := { name := "fnAddFork", fn := fun _ => fun
  | [d] => { results := [.lit (.bool true)], args := [d] }
  | _ => none }
def fnAddForkRow : OpenClaim := { program := "ytpcompnmadpljaa", sum := "1ac2fd7a2b643b2f92733cf7a8feaad1cd4a1e43e68e268558a2e6fac7db19a0", func := "loop.example/wholecheck/laws.FnAddFork", spec := "fnAddFork", recurses := true, plainKeys := false, apart := false }
def FnAddForkSaid : Prop := fnAddForkRow.holds Try.pinned (OpenSpec.ofChange fnAddForkSpec)

/-- ITS FALSE NEIGHBOUR: 'it returns false'. Refute it at one input. -/
def fnAddForkWrong : ChangeSpec := { name := "fnAddFork", fn := fun _ => fun
  | [d] => { results := [.lit (.bool false)], args := [d] }
  | _ => none }
def FnAddForkWrongFalsely : Prop := fnAddForkRow.holds Try.pinned (OpenSpec.ofChange fnAddForkWrong)

/-- 'laws.FnExactDiagramFix': WHATEVER THE INPUT: true; the input reads as it did. -/
def fnExactDiagramFixSpec : ChangeSpec := { name := "fnExactDiagramFix", fn := fun _ => fun
  | [d1, d2, d3, d4] => { results := [.lit (.bool true)], args := [d1, d2, d3, d4] }
  | _ => none }
def fnExactDiagramFixRow : OpenClaim := { program := "ytpcompnmadpljaa", sum := "1ac2fd7a2b643b2f92733cf7a8feaad1cd4a1e43e68e268558a2e6fac7db19a0", func := "loop.example/wholecheck/laws.FnExactDiagramFix", spec := "fnExactDiagramFix", recurses := true, plainKeys := false, apart := false }
def FnExactDiagramFixSaid : Prop := fnExactDiagramFixRow.holds Try.pinned (OpenSpec.ofChange fnExactDiagramFixSpec)

/-- ITS FALSE NEIGHBOUR: 'it returns false'. Refute it at one input. -/
def fnExactDiagramFixWrong : ChangeSpec := { name := "fnExactDiagramFix", fn := fun _ => fun
  | [d1, d2, d3, d4] => { results := [.lit (.bool false)], args := [d1, d2, d3, d4] }
  | _ => none }
def FnExactDiagramFixWrongFalsely : Prop := fnExactDiagramFixRow.holds Try.pinned (OpenSpec.ofChange fnExactDiagramFixWrong)

/-- 'laws.FnDiagramNot': WHATEVER THE INPUT: true; the input reads as it did. -/
def fnDiagramNotSpec : ChangeSpec := { name := "fnDiagramNot", fn := fun _ => fun
  | [d] => { results := [.lit (.bool true)], args := [d] }
  | _ => none }
def fnDiagramNotRow : OpenClaim := { program := "ytpcompnmadpljaa", sum := "1ac2fd7a2b643b2f92733cf7a8feaad1cd4a1e43e68e268558a2e6fac7db19a0", func := "loop.example/wholecheck/laws.FnDiagramNot", spec := "fnDiagramNot", unfollowed := true, recurses := true, plainKeys := false, apart := false }
def FnDiagramNotSaid : Prop := fnDiagramNotRow.holds Try.pinned (OpenSpec.ofChange fnDiagramNotSpec)

/-- ITS FALSE NEIGHBOUR: 'it returns false'. Refute it at one input. -/
def fnDiagramNotWrong : ChangeSpec := { name := "fnDiagramNot", fn := fun _ => fun
  | [d] => { results := [.lit (.bool false)], args := [d] }
  | _ => none }
def FnDiagramNotWrongFalsely : Prop := fnDiagramNotRow.holds Try.pinned (OpenSpec.ofChange fnDiagramNotWrong)

/-- 'laws.FnDiagramOf': WHATEVER THE INPUT: true; the input reads as it did. -/
def fnDiagramOfSpec : ChangeSpec := { name := "fnDiagramOf", fn := fun _ => fun
  | [d] => { results := [.lit (.bool true)], args := [d] }
  | _ => none }
def fnDiagramOfRow : OpenClaim := { program := "ytpcompnmadpljaa", sum := "1ac2fd7a2b643b2f92733cf7a8feaad1cd4a1e43e68e268558a2e6fac7db19a0", func := "loop.example/wholecheck/laws.FnDiagramOf", spec := "fnDiagramOf", unfollowed := true, recurses := true, plainKeys := false, apart := false }
def FnDiagramOfSaid : Prop := fnDiagramOfRow.holds Try.pinned (OpenSpec.ofChange fnDiagramOfSpec)

/-- ITS FALSE NEIGHBOUR: 'it returns false'. Refute it at one input. -/
def fnDiagramOfWrong : ChangeSpec := { name := "fnDiagramOf", fn := fun _ => fun
  | [d] => { results := [.lit (.bool false)], args := [d] }
  | _ => none }
def FnDiagramOfWrongFalsely : Prop := fnDiagramOfRow.holds Try.pinned (OpenSpec.ofChange fnDiagramOfWrong)

/-- 'laws.FnExactDiagramAnd': WHATEVER THE INPUT: true; the input reads as it did. -/
def fnExactDiagramAndSpec : ChangeSpec := { name := "fnExactDiagramAnd", fn := fun _ => fun
  | [d1, d2, d3] => { results := [.lit (.bool true)], args := [d1, d2, d3] }
  | _ => none }
def fnExactDiagramAndRow : OpenClaim := { program := "ytpcompnmadpljaa", sum := "1ac2fd7a2b643b2f92733cf7a8feaad1cd4a1e43e68e268558a2e6fac7db19a0", func := "loop.example/wholecheck/laws.FnExactDiagramAnd", spec := "fnExactDiagramAnd", recurses := true, plainKeys := false, apart := false }
def FnExactDiagramAndSaid : Prop := fnExactDiagramAndRow.holds Try.pinned (OpenSpec.ofChange fnExactDiagramAndSpec)

/-- ITS FALSE NEIGHBOUR: 'it returns false'. Refute it at one input. -/
def fnExactDiagramAndWrong : ChangeSpec := { name := "fnExactDiagramAnd", fn := fun _ => fun
  | [d1, d2, d3] => { results := [.lit (.bool false)], args := [d1, d2, d3] }
  | _ => none }
def FnExactDiagramAndWrongFalsely : Prop := fnExactDiagramAndRow.holds Try.pinned (OpenSpec.ofChange fnExactDiagramAndWrong)

/-- 'laws.FnExactDiagramNot': WHATEVER THE INPUT: true; the input reads as it did. -/
def fnExactDiagramNotSpec : ChangeSpec := { name := "fnExactDiagramNot", fn := fun _ => fun
  | [d1, d2] => { results := [.lit (.bool true)], args := [d1, d2] }
  | _ => none }
def fnExactDiagramNotRow : OpenClaim := { program := "ytpcompnmadpljaa", sum := "1ac2fd7a2b643b2f92733cf7a8feaad1cd4a1e43e68e268558a2e6fac7db19a0", func := "loop.example/wholecheck/laws.FnExactDiagramNot", spec := "fnExactDiagramNot", recurses := true, plainKeys := false, apart := false }
def FnExactDiagramNotSaid : Prop := fnExactDiagramNotRow.holds Try.pinned (OpenSpec.ofChange fnExactDiagramNotSpec)

/-- ITS FALSE NEIGHBOUR: 'it returns false'. Refute it at one input. -/
def fnExactDiagramNotWrong : ChangeSpec := { name := "fnExactDiagramNot", fn := fun _ => fun
  | [d1, d2] => { results := [.lit (.bool false)], args := [d1, d2] }
  | _ => none }
def FnExactDiagramNotWrongFalsely : Prop := fnExactDiagramNotRow.holds Try.pinned (OpenSpec.ofChange fnExactDiagramNotWrong)

/-- 'laws.FnExactDiagramOr': WHATEVER THE INPUT: true; the input reads as it did. -/
def fnExactDiagramOrSpec : ChangeSpec := { name := "fnExactDiagramOr", fn := fun _ => fun
  | [d1, d2, d3] => { results := [.lit (.bool true)], args := [d1, d2, d3] }
  | _ => none }
def fnExactDiagramOrRow : OpenClaim := { program := "ytpcompnmadpljaa", sum := "1ac2fd7a2b643b2f92733cf7a8feaad1cd4a1e43e68e268558a2e6fac7db19a0", func := "loop.example/wholecheck/laws.FnExactDiagramOr", spec := "fnExactDiagramOr", recurses := true, plainKeys := false, apart := false }
def FnExactDiagramOrSaid : Prop := fnExactDiagramOrRow.holds Try.pinned (OpenSpec.ofChange fnExactDiagramOrSpec)

/-- ITS FALSE NEIGHBOUR: 'it returns false'. Refute it at one input. -/
def fnExactDiagramOrWrong : ChangeSpec := { name := "fnExactDiagramOr", fn := fun _ => fun
  | [d1, d2, d3] => { results := [.lit (.bool false)], args := [d1, d2, d3] }
  | _ => none }
def FnExactDiagramOrWrongFalsely : Prop := fnExactDiagramOrRow.holds Try.pinned (OpenSpec.ofChange fnExactDiagramOrWrong)

/-- 'laws.FnDiagramSame': WHATEVER THE INPUT: true; the input reads as it did. -/
def fnDiagramSameSpec : ChangeSpec := { name := "fnDiagramSame", fn := fun _ => fun
  | [d] => { results := [.lit (.bool true)], args := [d] }
  | _ => none }
def fnDiagramSameRow : OpenClaim := { program := "ytpcompnmadpljaa", sum := "1ac2fd7a2b643b2f92733cf7a8feaad1cd4a1e43e68e268558a2e6fac7db19a0", func := "loop.example/wholecheck/laws.FnDiagramSame", spec := "fnDiagramSame", unfollowed := true, recurses := true, plainKeys := false, apart := false }
def FnDiagramSameSaid : Prop := fnDiagramSameRow.holds Try.pinned (OpenSpec.ofChange fnDiagramSameSpec)

/-- ITS FALSE NEIGHBOUR: 'it returns false'. Refute it at one input. -/
def fnDiagramSameWrong : ChangeSpec := { name := "fnDiagramSame", fn := fun _ => fun
  | [d] => { results := [.lit (.bool false)], args := [d] }
  | _ => none }
def FnDiagramSameWrongFalsely : Prop := fnDiagramSameRow.holds Try.pinned (OpenSpec.ofChange fnDiagramSameWrong)

/-- 'laws.FnExactDiagramOf': WHATEVER THE INPUT: true; the input reads as it did. -/
def fnExactDiagramOfSpec : ChangeSpec := { name := "fnExactDiagramOf", fn := fun _ => fun
  | [d1, d2] => { results := [.lit (.bool true)], args := [d1, d2] }
  | _ => none }
def fnExactDiagramOfRow : OpenClaim := { program := "ytpcompnmadpljaa", sum := "1ac2fd7a2b643b2f92733cf7a8feaad1cd4a1e43e68e268558a2e6fac7db19a0", func := "loop.example/wholecheck/laws.FnExactDiagramOf", spec := "fnExactDiagramOf", unfollowed := true, recurses := true, plainKeys := false, apart := false }
def FnExactDiagramOfSaid : Prop := fnExactDiagramOfRow.holds Try.pinned (OpenSpec.ofChange fnExactDiagramOfSpec)

/-- ITS FALSE NEIGHBOUR: 'it returns false'. Refute it at one input. -/
def fnExactDiagramOfWrong : ChangeSpec := { name := "fnExactDiagramOf", fn := fun _ => fun
  | [d1, d2] => { results := [.lit (.bool false)], args := [d1, d2] }
  | _ => none }
def FnExactDiagramOfWrongFalsely : Prop := fnExactDiagramOfRow.holds Try.pinned (OpenSpec.ofChange fnExactDiagramOfWrong)

/-- 'laws.FnDiagramRow': WHATEVER THE INPUT: true; the input reads as it did. -/
def fnDiagramRowSpec : ChangeSpec := { name := "fnDiagramRow", fn := fun _ => fun
  | [d] => { results := [.lit (.bool true)], args := [d] }
  | _ => none }
def fnDiagramRowRow : OpenClaim := { program := "ytpcompnmadpljaa", sum := "1ac2fd7a2b643b2f92733cf7a8feaad1cd4a1e43e68e268558a2e6fac7db19a0", func := "loop.example/wholecheck/laws.FnDiagramRow", spec := "fnDiagramRow", unfollowed := true, recurses := true, plainKeys := false, apart := false }
def FnDiagramRowSaid : Prop := fnDiagramRowRow.holds Try.pinned (OpenSpec.ofChange fnDiagramRowSpec)

/-- ITS FALSE NEIGHBOUR: 'it returns false'. Refute it at one input. -/
def fnDiagramRowWrong : ChangeSpec := { name := "fnDiagramRow", fn := fun _ => fun
  | [d] => { results := [.lit (.bool false)], args := [d] }
  | _ => none }
def FnDiagramRowWrongFalsely : Prop := fnDiagramRowRow.holds Try.pinned (OpenSpec.ofChange fnDiagramRowWrong)

/- THE SECOND FORM. 'bulk': how many values and letters a reading holds, each counted each time it is reached (what is shared counts as often as it is met; a slice's spare places count too). A statement '..UptoSaid' is the law's where the arguments, and the package variables that the reading takes, are together of bulk at most 1048576: NARROWER than '..Said'. Prove '..Said' where nothing that the law and all that it calls make is longer than what came in: it says more and counts as full. Else prove '..UptoSaid'. A law counts once. -/
mutual
def uptoBulk {H : Type} : DataW H → Nat
  | .lit (.string bytes) => bytes.length + 1
  | .lit _ => 1
  | .nil => 1
  | .ptr d => uptoBulk d + 1
  | .slice elems spare => uptoBulkAll elems + uptoBulkAll spare + 1
  | .agg parts => uptoBulkAll parts + 1
  | .iface _ d => uptoBulk d + 1
  | .map entries => uptoBulkEntries entries + 1
  | .held _ => 1
def uptoBulkAll {H : Type} : List (DataW H) → Nat
  | [] => 0
  | d :: r => uptoBulk d + uptoBulkAll r
def uptoBulkEntries {H : Type} : List (Lit × DataW H) → Nat
  | [] => 0
  | x :: r => uptoBulkEntry x + uptoBulkEntries r
def uptoBulkEntry {H : Type} : Lit × DataW H → Nat
  | (.string bytes, d) => bytes.length + uptoBulk d + 1
  | (_, d) => uptoBulk d + 1
 end
def uptoSmall : (H : Type) → List (DataW H) → Bool := fun _ ds => decide (uptoBulkAll ds ≤ 1048576)
def OpenSpec.upto (s : _root_.Go.ChangeSpec) : _root_.Go.OpenSpec := { _root_.Go.OpenSpec.ofChange s with cond := some uptoSmall }

/-- 'laws.FnAddFork', WHERE WHAT IT READS IS OF BULK AT MOST 1048576: true; the input reads as it did. -/
def fnAddForkUptoRow : OpenClaim := { program := "ytpcompnmadpljaa", sum := "1ac2fd7a2b643b2f92733cf7a8feaad1cd4a1e43e68e268558a2e6fac7db19a0", func := "loop.example/wholecheck/laws.FnAddFork", spec := "fnAddFork", recurses := true, plainKeys := false, apart := false, narrowed := true }
def FnAddForkUptoSaid : Prop := fnAddForkUptoRow.holds Try.pinned (OpenSpec.upto fnAddForkSpec)

/-- 'laws.FnExactDiagramFix', WHERE WHAT IT READS IS OF BULK AT MOST 1048576: true; the input reads as it did. -/
def fnExactDiagramFixUptoRow : OpenClaim := { program := "ytpcompnmadpljaa", sum := "1ac2fd7a2b643b2f92733cf7a8feaad1cd4a1e43e68e268558a2e6fac7db19a0", func := "loop.example/wholecheck/laws.FnExactDiagramFix", spec := "fnExactDiagramFix", recurses := true, plainKeys := false, apart := false, narrowed := true }
def FnExactDiagramFixUptoSaid : Prop := fnExactDiagramFixUptoRow.holds Try.pinned (OpenSpec.upto fnExactDiagramFixSpec)

/-- 'laws.FnDiagramNot', WHERE WHAT IT READS IS OF BULK AT MOST 1048576: true; the input reads as it did. -/
def fnDiagramNotUptoRow : OpenClaim := { program := "ytpcompnmadpljaa", sum := "1ac2fd7a2b643b2f92733cf7a8feaad1cd4a1e43e68e268558a2e6fac7db19a0", func := "loop.example/wholecheck/laws.FnDiagramNot", spec := "fnDiagramNot", unfollowed := true, recurses := true, plainKeys := false, apart := false, narrowed := true }
def FnDiagramNotUptoSaid : Prop := fnDiagramNotUptoRow.holds Try.pinned (OpenSpec.upto fnDiagramNotSpec)

/-- 'laws.FnDiagramOf', WHERE WHAT IT READS IS OF BULK AT MOST 1048576: true; the input reads as it did. -/
def fnDiagramOfUptoRow : OpenClaim := { program := "ytpcompnmadpljaa", sum := "1ac2fd7a2b643b2f92733cf7a8feaad1cd4a1e43e68e268558a2e6fac7db19a0", func := "loop.example/wholecheck/laws.FnDiagramOf", spec := "fnDiagramOf", unfollowed := true, recurses := true, plainKeys := false, apart := false, narrowed := true }
def FnDiagramOfUptoSaid : Prop := fnDiagramOfUptoRow.holds Try.pinned (OpenSpec.upto fnDiagramOfSpec)

/-- 'laws.FnExactDiagramAnd', WHERE WHAT IT READS IS OF BULK AT MOST 1048576: true; the input reads as it did. -/
def fnExactDiagramAndUptoRow : OpenClaim := { program := "ytpcompnmadpljaa", sum := "1ac2fd7a2b643b2f92733cf7a8feaad1cd4a1e43e68e268558a2e6fac7db19a0", func := "loop.example/wholecheck/laws.FnExactDiagramAnd", spec := "fnExactDiagramAnd", recurses := true, plainKeys := false, apart := false, narrowed := true }
def FnExactDiagramAndUptoSaid : Prop := fnExactDiagramAndUptoRow.holds Try.pinned (OpenSpec.upto fnExactDiagramAndSpec)

/-- 'laws.FnExactDiagramNot', WHERE WHAT IT READS IS OF BULK AT MOST 1048576: true; the input reads as it did. -/
def fnExactDiagramNotUptoRow : OpenClaim := { program := "ytpcompnmadpljaa", sum := "1ac2fd7a2b643b2f92733cf7a8feaad1cd4a1e43e68e268558a2e6fac7db19a0", func := "loop.example/wholecheck/laws.FnExactDiagramNot", spec := "fnExactDiagramNot", recurses := true, plainKeys := false, apart := false, narrowed := true }
def FnExactDiagramNotUptoSaid : Prop := fnExactDiagramNotUptoRow.holds Try.pinned (OpenSpec.upto fnExactDiagramNotSpec)

/-- 'laws.FnExactDiagramOr', WHERE WHAT IT READS IS OF BULK AT MOST 1048576: true; the input reads as it did. -/
def fnExactDiagramOrUptoRow : OpenClaim := { program := "ytpcompnmadpljaa", sum := "1ac2fd7a2b643b2f92733cf7a8feaad1cd4a1e43e68e268558a2e6fac7db19a0", func := "loop.example/wholecheck/laws.FnExactDiagramOr", spec := "fnExactDiagramOr", recurses := true, plainKeys := false, apart := false, narrowed := true }
def FnExactDiagramOrUptoSaid : Prop := fnExactDiagramOrUptoRow.holds Try.pinned (OpenSpec.upto fnExactDiagramOrSpec)

/-- 'laws.FnDiagramSame', WHERE WHAT IT READS IS OF BULK AT MOST 1048576: true; the input reads as it did. -/
def fnDiagramSameUptoRow : OpenClaim := { program := "ytpcompnmadpljaa", sum := "1ac2fd7a2b643b2f92733cf7a8feaad1cd4a1e43e68e268558a2e6fac7db19a0", func := "loop.example/wholecheck/laws.FnDiagramSame", spec := "fnDiagramSame", unfollowed := true, recurses := true, plainKeys := false, apart := false, narrowed := true }
def FnDiagramSameUptoSaid : Prop := fnDiagramSameUptoRow.holds Try.pinned (OpenSpec.upto fnDiagramSameSpec)

/-- 'laws.FnExactDiagramOf', WHERE WHAT IT READS IS OF BULK AT MOST 1048576: true; the input reads as it did. -/
def fnExactDiagramOfUptoRow : OpenClaim := { program := "ytpcompnmadpljaa", sum := "1ac2fd7a2b643b2f92733cf7a8feaad1cd4a1e43e68e268558a2e6fac7db19a0", func := "loop.example/wholecheck/laws.FnExactDiagramOf", spec := "fnExactDiagramOf", unfollowed := true, recurses := true, plainKeys := false, apart := false, narrowed := true }
def FnExactDiagramOfUptoSaid : Prop := fnExactDiagramOfUptoRow.holds Try.pinned (OpenSpec.upto fnExactDiagramOfSpec)

/-- 'laws.FnDiagramRow', WHERE WHAT IT READS IS OF BULK AT MOST 1048576: true; the input reads as it did. -/
def fnDiagramRowUptoRow : OpenClaim := { program := "ytpcompnmadpljaa", sum := "1ac2fd7a2b643b2f92733cf7a8feaad1cd4a1e43e68e268558a2e6fac7db19a0", func := "loop.example/wholecheck/laws.FnDiagramRow", spec := "fnDiagramRow", unfollowed := true, recurses := true, plainKeys := false, apart := false, narrowed := true }
def FnDiagramRowUptoSaid : Prop := fnDiagramRowUptoRow.holds Try.pinned (OpenSpec.upto fnDiagramRowSpec)

end Rows
end Go.Proofs.Ytpcompnmadpljaa
