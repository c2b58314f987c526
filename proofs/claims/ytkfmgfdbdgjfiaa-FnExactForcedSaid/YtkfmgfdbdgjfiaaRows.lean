/-
  No cell of these rows narrows 'for every input' (looked for: loops, veiled, ifaces, maps, wideKeys, modest, calm, conditions, laid).
  DERIVED. THE GIVEN ROWS OF THIS SEAT. 9 by the template 'for every input the law returns true; each argument reads behind the call as it read before'; 0 by the template 'total and deterministic' (their statements: YtkfmgfdbdgjfiaaTotals.lean).
  GIVEN WITH THE SEED: the statements are not yours to turn. If you find one false, say at which input.
  Laid BY PROGRAM, IN A SANDBOX (cutbox-rows.mjs): the forced cells as the released guide's own fill.sh prints them over the translation 6dd99458a641ac9b… (all of the seat's roots in one cut). By AI agents, Wed Nov 11 2026. No macro, syntax, notation, axiom, sorry.
-/
import Derived.Test.YtkfmgfdbdgjfiaaChecked
import GoSem.Claim
import GoSem.ClaimJoined
import GoSem.ClaimMapViews
import Derived.JoinedTies
import Derived.KernelRfl
namespace Go.Proofs.Ytkfmgfdbdgjfiaa
/- THE CELL 'sum', in the pinned program and in every row, IS THE sha256 OF THE DUMP (.gsa) THAT YtkfmgfdbdgjfiaaProg.lean LOADS. Nothing in Lean hashes anything: it is a label: what it is worth is what the hold of that sum in a sandbox is worth. -/
noncomputable def Try.pinned : Pinned := { name := "ytkfmgfdbdgjfiaa", sum := "6dd99458a641ac9b849e8697e10a3e287bf73ac96f2263586c9584630413db81", checked := Try.checked }
namespace Rows
def none {H : Type} : Left H := { results := [], args := [] }

/-- 'laws.FnExactForced': WHATEVER THE INPUT: true; the input reads as it did. -/
def fnExactForcedSpec : ChangeSpec := { name := "fnExactForced", fn := fun _ => fun
  | [d1, d2] => { results := [.lit (.bool true)], args := [d1, d2] }
  | _ => none }
def fnExactForcedRow : OpenClaim := { program := "ytkfmgfdbdgjfiaa", sum := "6dd99458a641ac9b849e8697e10a3e287bf73ac96f2263586c9584630413db81", func := "loop.example/wholecheck/laws.FnExactForced", spec := "fnExactForced", unfollowed := true, recurses := true, apart := false }
def FnExactForcedSaid : Prop := fnExactForcedRow.holds Try.pinned (OpenSpec.ofChange fnExactForcedSpec)

/-- ITS FALSE NEIGHBOUR: 'it returns false'. Refute it at one input. -/
def fnExactForcedWrong : ChangeSpec := { name := "fnExactForced", fn := fun _ => fun
  | [d1, d2] => { results := [.lit (.bool false)], args := [d1, d2] }
  | _ => none }
def FnExactForcedWrongFalsely : Prop := fnExactForcedRow.holds Try.pinned (OpenSpec.ofChange fnExactForcedWrong)

/-- 'laws.FnForced': WHATEVER THE INPUT: true; the input reads as it did. -/
def fnForcedSpec : ChangeSpec := { name := "fnForced", fn := fun _ => fun
  | [d] => { results := [.lit (.bool true)], args := [d] }
  | _ => none }
def fnForcedRow : OpenClaim := { program := "ytkfmgfdbdgjfiaa", sum := "6dd99458a641ac9b849e8697e10a3e287bf73ac96f2263586c9584630413db81", func := "loop.example/wholecheck/laws.FnForced", spec := "fnForced", unfollowed := true, recurses := true, apart := false }
def FnForcedSaid : Prop := fnForcedRow.holds Try.pinned (OpenSpec.ofChange fnForcedSpec)

/-- ITS FALSE NEIGHBOUR: 'it returns false'. Refute it at one input. -/
def fnForcedWrong : ChangeSpec := { name := "fnForced", fn := fun _ => fun
  | [d] => { results := [.lit (.bool false)], args := [d] }
  | _ => none }
def FnForcedWrongFalsely : Prop := fnForcedRow.holds Try.pinned (OpenSpec.ofChange fnForcedWrong)

/-- 'laws.FnExactFollowsFrom': WHATEVER THE INPUT: true; the input reads as it did. -/
def fnExactFollowsFromSpec : ChangeSpec := { name := "fnExactFollowsFrom", fn := fun _ => fun
  | [d1, d2] => { results := [.lit (.bool true)], args := [d1, d2] }
  | _ => none }
def fnExactFollowsFromRow : OpenClaim := { program := "ytkfmgfdbdgjfiaa", sum := "6dd99458a641ac9b849e8697e10a3e287bf73ac96f2263586c9584630413db81", func := "loop.example/wholecheck/laws.FnExactFollowsFrom", spec := "fnExactFollowsFrom", unfollowed := true, recurses := true, apart := false }
def FnExactFollowsFromSaid : Prop := fnExactFollowsFromRow.holds Try.pinned (OpenSpec.ofChange fnExactFollowsFromSpec)

/-- ITS FALSE NEIGHBOUR: 'it returns false'. Refute it at one input. -/
def fnExactFollowsFromWrong : ChangeSpec := { name := "fnExactFollowsFrom", fn := fun _ => fun
  | [d1, d2] => { results := [.lit (.bool false)], args := [d1, d2] }
  | _ => none }
def FnExactFollowsFromWrongFalsely : Prop := fnExactFollowsFromRow.holds Try.pinned (OpenSpec.ofChange fnExactFollowsFromWrong)

/-- 'laws.FnExactCheckProof': WHATEVER THE INPUT: true; the input reads as it did. -/
def fnExactCheckProofSpec : ChangeSpec := { name := "fnExactCheckProof", fn := fun _ => fun
  | [d1, d2] => { results := [.lit (.bool true)], args := [d1, d2] }
  | _ => none }
def fnExactCheckProofRow : OpenClaim := { program := "ytkfmgfdbdgjfiaa", sum := "6dd99458a641ac9b849e8697e10a3e287bf73ac96f2263586c9584630413db81", func := "loop.example/wholecheck/laws.FnExactCheckProof", spec := "fnExactCheckProof", unfollowed := true, recurses := true, apart := false }
def FnExactCheckProofSaid : Prop := fnExactCheckProofRow.holds Try.pinned (OpenSpec.ofChange fnExactCheckProofSpec)

/-- ITS FALSE NEIGHBOUR: 'it returns false'. Refute it at one input. -/
def fnExactCheckProofWrong : ChangeSpec := { name := "fnExactCheckProof", fn := fun _ => fun
  | [d1, d2] => { results := [.lit (.bool false)], args := [d1, d2] }
  | _ => none }
def FnExactCheckProofWrongFalsely : Prop := fnExactCheckProofRow.holds Try.pinned (OpenSpec.ofChange fnExactCheckProofWrong)

/-- 'laws.FnExactFixedLits': WHATEVER THE INPUT: true; the input reads as it did. -/
def fnExactFixedLitsSpec : ChangeSpec := { name := "fnExactFixedLits", fn := fun _ => fun
  | [d] => { results := [.lit (.bool true)], args := [d] }
  | _ => none }
def fnExactFixedLitsRow : OpenClaim := { program := "ytkfmgfdbdgjfiaa", sum := "6dd99458a641ac9b849e8697e10a3e287bf73ac96f2263586c9584630413db81", func := "loop.example/wholecheck/laws.FnExactFixedLits", spec := "fnExactFixedLits", unfollowed := true, recurses := true, apart := false }
def FnExactFixedLitsSaid : Prop := fnExactFixedLitsRow.holds Try.pinned (OpenSpec.ofChange fnExactFixedLitsSpec)

/-- ITS FALSE NEIGHBOUR: 'it returns false'. Refute it at one input. -/
def fnExactFixedLitsWrong : ChangeSpec := { name := "fnExactFixedLits", fn := fun _ => fun
  | [d] => { results := [.lit (.bool false)], args := [d] }
  | _ => none }
def FnExactFixedLitsWrongFalsely : Prop := fnExactFixedLitsRow.holds Try.pinned (OpenSpec.ofChange fnExactFixedLitsWrong)

/-- 'laws.FnFixedLits': WHATEVER THE INPUT: true; the input reads as it did. -/
def fnFixedLitsSpec : ChangeSpec := { name := "fnFixedLits", fn := fun _ => fun
  | [d] => { results := [.lit (.bool true)], args := [d] }
  | _ => none }
def fnFixedLitsRow : OpenClaim := { program := "ytkfmgfdbdgjfiaa", sum := "6dd99458a641ac9b849e8697e10a3e287bf73ac96f2263586c9584630413db81", func := "loop.example/wholecheck/laws.FnFixedLits", spec := "fnFixedLits", unfollowed := true, recurses := true, apart := false }
def FnFixedLitsSaid : Prop := fnFixedLitsRow.holds Try.pinned (OpenSpec.ofChange fnFixedLitsSpec)

/-- ITS FALSE NEIGHBOUR: 'it returns false'. Refute it at one input. -/
def fnFixedLitsWrong : ChangeSpec := { name := "fnFixedLits", fn := fun _ => fun
  | [d] => { results := [.lit (.bool false)], args := [d] }
  | _ => none }
def FnFixedLitsWrongFalsely : Prop := fnFixedLitsRow.holds Try.pinned (OpenSpec.ofChange fnFixedLitsWrong)

/-- 'laws.FnExactCoreOf': WHATEVER THE INPUT: true; the input reads as it did. -/
def fnExactCoreOfSpec : ChangeSpec := { name := "fnExactCoreOf", fn := fun _ => fun
  | [d] => { results := [.lit (.bool true)], args := [d] }
  | _ => none }
def fnExactCoreOfRow : OpenClaim := { program := "ytkfmgfdbdgjfiaa", sum := "6dd99458a641ac9b849e8697e10a3e287bf73ac96f2263586c9584630413db81", func := "loop.example/wholecheck/laws.FnExactCoreOf", spec := "fnExactCoreOf", unfollowed := true, recurses := true, apart := false }
def FnExactCoreOfSaid : Prop := fnExactCoreOfRow.holds Try.pinned (OpenSpec.ofChange fnExactCoreOfSpec)

/-- ITS FALSE NEIGHBOUR: 'it returns false'. Refute it at one input. -/
def fnExactCoreOfWrong : ChangeSpec := { name := "fnExactCoreOf", fn := fun _ => fun
  | [d] => { results := [.lit (.bool false)], args := [d] }
  | _ => none }
def FnExactCoreOfWrongFalsely : Prop := fnExactCoreOfRow.holds Try.pinned (OpenSpec.ofChange fnExactCoreOfWrong)

/-- 'laws.FnCoreOf': WHATEVER THE INPUT: true; the input reads as it did. -/
def fnCoreOfSpec : ChangeSpec := { name := "fnCoreOf", fn := fun _ => fun
  | [d] => { results := [.lit (.bool true)], args := [d] }
  | _ => none }
def fnCoreOfRow : OpenClaim := { program := "ytkfmgfdbdgjfiaa", sum := "6dd99458a641ac9b849e8697e10a3e287bf73ac96f2263586c9584630413db81", func := "loop.example/wholecheck/laws.FnCoreOf", spec := "fnCoreOf", unfollowed := true, recurses := true, apart := false }
def FnCoreOfSaid : Prop := fnCoreOfRow.holds Try.pinned (OpenSpec.ofChange fnCoreOfSpec)

/-- ITS FALSE NEIGHBOUR: 'it returns false'. Refute it at one input. -/
def fnCoreOfWrong : ChangeSpec := { name := "fnCoreOf", fn := fun _ => fun
  | [d] => { results := [.lit (.bool false)], args := [d] }
  | _ => none }
def FnCoreOfWrongFalsely : Prop := fnCoreOfRow.holds Try.pinned (OpenSpec.ofChange fnCoreOfWrong)

/-- 'laws.FnExactTrimProof': WHATEVER THE INPUT: true; the input reads as it did. -/
def fnExactTrimProofSpec : ChangeSpec := { name := "fnExactTrimProof", fn := fun _ => fun
  | [d1, d2] => { results := [.lit (.bool true)], args := [d1, d2] }
  | _ => none }
def fnExactTrimProofRow : OpenClaim := { program := "ytkfmgfdbdgjfiaa", sum := "6dd99458a641ac9b849e8697e10a3e287bf73ac96f2263586c9584630413db81", func := "loop.example/wholecheck/laws.FnExactTrimProof", spec := "fnExactTrimProof", unfollowed := true, recurses := true, apart := false }
def FnExactTrimProofSaid : Prop := fnExactTrimProofRow.holds Try.pinned (OpenSpec.ofChange fnExactTrimProofSpec)

/-- ITS FALSE NEIGHBOUR: 'it returns false'. Refute it at one input. -/
def fnExactTrimProofWrong : ChangeSpec := { name := "fnExactTrimProof", fn := fun _ => fun
  | [d1, d2] => { results := [.lit (.bool false)], args := [d1, d2] }
  | _ => none }
def FnExactTrimProofWrongFalsely : Prop := fnExactTrimProofRow.holds Try.pinned (OpenSpec.ofChange fnExactTrimProofWrong)

/- THE SECOND FORM. 'bulk': how many values and letters a reading holds, each counted each time it is reached (what is shared counts as often as it is met; a slice's spare places count too). A statement '..UptoSaid' is the law's where the arguments, and the package variables that the reading takes, are together of bulk at most 1048576: NARROWER than '..Said'. Prove '..Said' where nothing that the law and all that it calls make is longer than what came in: it says more and counts as full. Else prove '..UptoSaid'. A law counts once. -/
mutual
def uptoBulk {H : Type} : DataW H → Nat
  | .lit (.string bytes) => bytes.length + 1
  | .lit _ => 1
  | .nil => 1
  | .ptr d => uptoBulk d + 1
  | .slice elems spare => uptoBulkAll elems + uptoBulkAll spare + 1
  | .agg parts => uptoBulkAll parts + 1
  | .iface _ d => uptoBulk d + 1
  | .map entries => uptoBulkEntries entries + 1
  | .held _ => 1
def uptoBulkAll {H : Type} : List (DataW H) → Nat
  | [] => 0
  | d :: r => uptoBulk d + uptoBulkAll r
def uptoBulkEntries {H : Type} : List (Lit × DataW H) → Nat
  | [] => 0
  | x :: r => uptoBulkEntry x + uptoBulkEntries r
def uptoBulkEntry {H : Type} : Lit × DataW H → Nat
  | (.string bytes, d) => bytes.length + uptoBulk d + 1
  | (_, d) => uptoBulk d + 1
 end
def uptoSmall : (H : Type) → List (DataW H) → Bool := fun _ ds => decide (uptoBulkAll ds ≤ 1048576)
def OpenSpec.upto (s : _root_.Go.ChangeSpec) : _root_.Go.OpenSpec := { _root_.Go.OpenSpec.ofChange s with cond := some uptoSmall }

/-- 'laws.FnExactForced', WHERE WHAT IT READS IS OF BULK AT MOST 1048576: true; the input reads as it did. -/
def fnExactForcedUptoRow : OpenClaim := { program := "ytkfmgfdbdgjfiaa", sum := "6dd99458a641ac9b849e8697e10a3e287bf73ac96f2263586c9584630413db81", func := "loop.example/wholecheck/laws.FnExactForced", spec := "fnExactForced", unfollowed := true, recurses := true, apart := false, narrowed := true }
def FnExactForcedUptoSaid : Prop := fnExactForcedUptoRow.holds Try.pinned (OpenSpec.upto fnExactForcedSpec)

/-- 'laws.FnForced', WHERE WHAT IT READS IS OF BULK AT MOST 1048576: true; the input reads as it did. -/
def fnForcedUptoRow : OpenClaim := { program := "ytkfmgfdbdgjfiaa", sum := "6dd99458a641ac9b849e8697e10a3e287bf73ac96f2263586c9584630413db81", func := "loop.example/wholecheck/laws.FnForced", spec := "fnForced", unfollowed := true, recurses := true, apart := false, narrowed := true }
def FnForcedUptoSaid : Prop := fnForcedUptoRow.holds Try.pinned (OpenSpec.upto fnForcedSpec)

/-- 'laws.FnExactFollowsFrom', WHERE WHAT IT READS IS OF BULK AT MOST 1048576: true; the input reads as it did. -/
def fnExactFollowsFromUptoRow : OpenClaim := { program := "ytkfmgfdbdgjfiaa", sum := "6dd99458a641ac9b849e8697e10a3e287bf73ac96f2263586c9584630413db81", func := "loop.example/wholecheck/laws.FnExactFollowsFrom", spec := "fnExactFollowsFrom", unfollowed := true, recurses := true, apart := false, narrowed := true }
def FnExactFollowsFromUptoSaid : Prop := fnExactFollowsFromUptoRow.holds Try.pinned (OpenSpec.upto fnExactFollowsFromSpec)

/-- 'laws.FnExactCheckProof', WHERE WHAT IT READS IS OF BULK AT MOST 1048576: true; the input reads as it did. -/
def fnExactCheckProofUptoRow : OpenClaim := { program := "ytkfmgfdbdgjfiaa", sum := "6dd99458a641ac9b849e8697e10a3e287bf73ac96f2263586c9584630413db81", func := "loop.example/wholecheck/laws.FnExactCheckProof", spec := "fnExactCheckProof", unfollowed := true, recurses := true, apart := false, narrowed := true }
def FnExactCheckProofUptoSaid : Prop := fnExactCheckProofUptoRow.holds Try.pinned (OpenSpec.upto fnExactCheckProofSpec)

/-- 'laws.FnExactFixedLits', WHERE WHAT IT READS IS OF BULK AT MOST 1048576: true; the input reads as it did. -/
def fnExactFixedLitsUptoRow : OpenClaim := { program := "ytkfmgfdbdgjfiaa", sum := "6dd99458a641ac9b849e8697e10a3e287bf73ac96f2263586c9584630413db81", func := "loop.example/wholecheck/laws.FnExactFixedLits", spec := "fnExactFixedLits", unfollowed := true, recurses := true, apart := false, narrowed := true }
def FnExactFixedLitsUptoSaid : Prop := fnExactFixedLitsUptoRow.holds Try.pinned (OpenSpec.upto fnExactFixedLitsSpec)

/-- 'laws.FnFixedLits', WHERE WHAT IT READS IS OF BULK AT MOST 1048576: true; the input reads as it did. -/
def fnFixedLitsUptoRow : OpenClaim := { program := "ytkfmgfdbdgjfiaa", sum := "6dd99458a641ac9b849e8697e10a3e287bf73ac96f2263586c9584630413db81", func := "loop.example/wholecheck/laws.FnFixedLits", spec := "fnFixedLits", unfollowed := true, recurses := true, apart := false, narrowed := true }
def FnFixedLitsUptoSaid : Prop := fnFixedLitsUptoRow.holds Try.pinned (OpenSpec.upto fnFixedLitsSpec)

/-- 'laws.FnExactCoreOf', WHERE WHAT IT READS IS OF BULK AT MOST 1048576: true; the input reads as it did. -/
def fnExactCoreOfUptoRow : OpenClaim := { program := "ytkfmgfdbdgjfiaa", sum := "6dd99458a641ac9b849e8697e10a3e287bf73ac96f2263586c9584630413db81", func := "loop.example/wholecheck/laws.FnExactCoreOf", spec := "fnExactCoreOf", unfollowed := true, recurses := true, apart := false, narrowed := true }
def FnExactCoreOfUptoSaid : Prop := fnExactCoreOfUptoRow.holds Try.pinned (OpenSpec.upto fnExactCoreOfSpec)

/-- 'laws.FnCoreOf', WHERE WHAT IT READS IS OF BULK AT MOST 1048576: true; the input reads as it did. -/
def fnCoreOfUptoRow : OpenClaim := { program := "ytkfmgfdbdgjfiaa", sum := "6dd99458a641ac9b849e8697e10a3e287bf73ac96f2263586c9584630413db81", func := "loop.example/wholecheck/laws.FnCoreOf", spec := "fnCoreOf", unfollowed := true, recurses := true, apart := false, narrowed := true }
def FnCoreOfUptoSaid : Prop := fnCoreOfUptoRow.holds Try.pinned (OpenSpec.upto fnCoreOfSpec)

/-- 'laws.FnExactTrimProof', WHERE WHAT IT READS IS OF BULK AT MOST 1048576: true; the input reads as it did. -/
def fnExactTrimProofUptoRow : OpenClaim := { program := "ytkfmgfdbdgjfiaa", sum := "6dd99458a641ac9b849e8697e10a3e287bf73ac96f2263586c9584630413db81", func := "loop.example/wholecheck/laws.FnExactTrimProof", spec := "fnExactTrimProof", unfollowed := true, recurses := true, apart := false, narrowed := true }
def FnExactTrimProofUptoSaid : Prop := fnExactTrimProofUptoRow.holds Try.pinned (OpenSpec.upto fnExactTrimProofSpec)

end Rows
end Go.Proofs.Ytkfmgfdbdgjfiaa
