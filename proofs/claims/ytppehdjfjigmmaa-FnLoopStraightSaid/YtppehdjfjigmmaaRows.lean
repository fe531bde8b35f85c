/-
  No cell of these rows narrows 'for every input' (looked for: loops, veiled, ifaces, maps, wideKeys, modest, calm, conditions, laid).
  DERIVED. THE GIVEN ROWS OF THIS SEAT. 12 by the template 'for every input the law returns true; each argument reads behind the call as it read before'; 0 by the template 'total and deterministic' (their statements: YtppehdjfjigmmaaTotals.lean).
  GIVEN WITH THE SEED: the statements are not yours to turn. If you find one false, say at which input.
  Laid BY PROGRAM, IN A SANDBOX (cutbox-rows.mjs): the forced cells as the released guide's own fill.sh prints them over the translation 94e12d5e7f282dba… (all of the seat's roots in one cut). By AI agents, Wed Nov 11 2026. No macro, syntax, notation, axiom, sorry.
-/
import Derived.Test.YtppehdjfjigmmaaChecked
import GoSem.Claim
import GoSem.ClaimJoined
import GoSem.ClaimMapViews
import Derived.JoinedTies
import Derived.KernelRfl
namespace Go.Proofs.Ytppehdjfjigmmaa
/- THE CELL 'sum', in the pinned program and in every row, IS THE sha256 OF THE DUMP (.gsa) THAT YtppehdjfjigmmaaProg.lean LOADS. Nothing in Lean hashes anything: it is a label: what it is worth is what the hold of that sum in a sandbox is worth. -/
noncomputable def Try.pinned : Pinned := { name := "ytppehdjfjigmmaa", sum := "94e12d5e7f282dba68048922cc890884a4880ad333918e59ef0b1db477191c16", checked := Try.checked }
namespace Rows
def none {H : Type} : Left H := { results := [], args := [] }

/-- 'laws.FnExactLoopOk': WHATEVER THE INPUT: true; the input reads as it did. -/
def fnExactLoopOkSpec : ChangeSpec := { name := "fnExactLoopOk", fn := fun _ => fun
  | [d] => { results := [.lit (.bool true)], args := [d] }
  | _ => none }
def fnExactLoopOkRow : OpenClaim := { program := "ytppehdjfjigmmaa", sum := "94e12d5e7f282dba68048922cc890884a4880ad333918e59ef0b1db477191c16", func := "loop.example/mortiser/laws.FnExactLoopOk", spec := "fnExactLoopOk", unfollowed := true, recurses := true, apart := false }
def FnExactLoopOkSaid : Prop := fnExactLoopOkRow.holds Try.pinned (OpenSpec.ofChange fnExactLoopOkSpec)

/-- ITS FALSE NEIGHBOUR: 'it returns false'. Refute it at one input. -/
def fnExactLoopOkWrong : ChangeSpec := { name := "fnExactLoopOk", fn := fun _ => fun
  | [d] => { results := [.lit (.bool false)], args := [d] }
  | _ => none }
def FnExactLoopOkWrongFalsely : Prop := fnExactLoopOkRow.holds Try.pinned (OpenSpec.ofChange fnExactLoopOkWrong)

/-- 'laws.FnExactLoopSize': WHATEVER THE INPUT: true; the input reads as it did. -/
def fnExactLoopSizeSpec : ChangeSpec := { name := "fnExactLoopSize", fn := fun _ => fun
  | [d] => { results := [.lit (.bool true)], args := [d] }
  | _ => none }
def fnExactLoopSizeRow : OpenClaim := { program := "ytppehdjfjigmmaa", sum := "94e12d5e7f282dba68048922cc890884a4880ad333918e59ef0b1db477191c16", func := "loop.example/mortiser/laws.FnExactLoopSize", spec := "fnExactLoopSize", unfollowed := true, recurses := true, apart := false }
def FnExactLoopSizeSaid : Prop := fnExactLoopSizeRow.holds Try.pinned (OpenSpec.ofChange fnExactLoopSizeSpec)

/-- ITS FALSE NEIGHBOUR: 'it returns false'. Refute it at one input. -/
def fnExactLoopSizeWrong : ChangeSpec := { name := "fnExactLoopSize", fn := fun _ => fun
  | [d] => { results := [.lit (.bool false)], args := [d] }
  | _ => none }
def FnExactLoopSizeWrongFalsely : Prop := fnExactLoopSizeRow.holds Try.pinned (OpenSpec.ofChange fnExactLoopSizeWrong)

/-- 'laws.FnLoopTwice': WHATEVER THE INPUT: true; the input reads as it did. -/
def fnLoopTwiceSpec : ChangeSpec := { name := "fnLoopTwice", fn := fun _ => fun
  | [d1, d2] => { results := [.lit (.bool true)], args := [d1, d2] }
  | _ => none }
def fnLoopTwiceRow : OpenClaim := { program := "ytppehdjfjigmmaa", sum := "94e12d5e7f282dba68048922cc890884a4880ad333918e59ef0b1db477191c16", func := "loop.example/mortiser/laws.FnLoopTwice", spec := "fnLoopTwice", unfollowed := true, recurses := true, apart := false }
def FnLoopTwiceSaid : Prop := fnLoopTwiceRow.holds Try.pinned (OpenSpec.ofChange fnLoopTwiceSpec)

/-- ITS FALSE NEIGHBOUR: 'it returns false'. Refute it at one input. -/
def fnLoopTwiceWrong : ChangeSpec := { name := "fnLoopTwice", fn := fun _ => fun
  | [d1, d2] => { results := [.lit (.bool false)], args := [d1, d2] }
  | _ => none }
def FnLoopTwiceWrongFalsely : Prop := fnLoopTwiceRow.holds Try.pinned (OpenSpec.ofChange fnLoopTwiceWrong)

/-- 'laws.FnExactLoopIn': WHATEVER THE INPUT: true; the input reads as it did. -/
def fnExactLoopInSpec : ChangeSpec := { name := "fnExactLoopIn", fn := fun _ => fun
  | [d1, d2] => { results := [.lit (.bool true)], args := [d1, d2] }
  | _ => none }
def fnExactLoopInRow : OpenClaim := { program := "ytppehdjfjigmmaa", sum := "94e12d5e7f282dba68048922cc890884a4880ad333918e59ef0b1db477191c16", func := "loop.example/mortiser/laws.FnExactLoopIn", spec := "fnExactLoopIn", unfollowed := true, recurses := true, apart := false }
def FnExactLoopInSaid : Prop := fnExactLoopInRow.holds Try.pinned (OpenSpec.ofChange fnExactLoopInSpec)

/-- ITS FALSE NEIGHBOUR: 'it returns false'. Refute it at one input. -/
def fnExactLoopInWrong : ChangeSpec := { name := "fnExactLoopIn", fn := fun _ => fun
  | [d1, d2] => { results := [.lit (.bool false)], args := [d1, d2] }
  | _ => none }
def FnExactLoopInWrongFalsely : Prop := fnExactLoopInRow.holds Try.pinned (OpenSpec.ofChange fnExactLoopInWrong)

/-- 'laws.FnLoopApart': WHATEVER THE INPUT: true; the input reads as it did. -/
def fnLoopApartSpec : ChangeSpec := { name := "fnLoopApart", fn := fun _ => fun
  | [d] => { results := [.lit (.bool true)], args := [d] }
  | _ => none }
def fnLoopApartRow : OpenClaim := { program := "ytppehdjfjigmmaa", sum := "94e12d5e7f282dba68048922cc890884a4880ad333918e59ef0b1db477191c16", func := "loop.example/mortiser/laws.FnLoopApart", spec := "fnLoopApart", unfollowed := true, recurses := true, apart := false }
def FnLoopApartSaid : Prop := fnLoopApartRow.holds Try.pinned (OpenSpec.ofChange fnLoopApartSpec)

/-- ITS FALSE NEIGHBOUR: 'it returns false'. Refute it at one input. -/
def fnLoopApartWrong : ChangeSpec := { name := "fnLoopApart", fn := fun _ => fun
  | [d] => { results := [.lit (.bool false)], args := [d] }
  | _ => none }
def FnLoopApartWrongFalsely : Prop := fnLoopApartRow.holds Try.pinned (OpenSpec.ofChange fnLoopApartWrong)

/-- 'laws.FnLoopStraight': WHATEVER THE INPUT: true; the input reads as it did. -/
def fnLoopStraightSpec : ChangeSpec := { name := "fnLoopStraight", fn := fun _ => fun
  | [d1, d2] => { results := [.lit (.bool true)], args := [d1, d2] }
  | _ => none }
def fnLoopStraightRow : OpenClaim := { program := "ytppehdjfjigmmaa", sum := "94e12d5e7f282dba68048922cc890884a4880ad333918e59ef0b1db477191c16", func := "loop.example/mortiser/laws.FnLoopStraight", spec := "fnLoopStraight", unfollowed := true, recurses := true, apart := false }
def FnLoopStraightSaid : Prop := fnLoopStraightRow.holds Try.pinned (OpenSpec.ofChange fnLoopStraightSpec)

/-- ITS FALSE NEIGHBOUR: 'it returns false'. Refute it at one input. -/
def fnLoopStraightWrong : ChangeSpec := { name := "fnLoopStraight", fn := fun _ => fun
  | [d1, d2] => { results := [.lit (.bool false)], args := [d1, d2] }
  | _ => none }
def FnLoopStraightWrongFalsely : Prop := fnLoopStraightRow.holds Try.pinned (OpenSpec.ofChange fnLoopStraightWrong)

/-- 'laws.FnLoopTurned': WHATEVER THE INPUT: true; the input reads as it did. -/
def fnLoopTurnedSpec : ChangeSpec := { name := "fnLoopTurned", fn := fun _ => fun
  | [d1, d2] => { results := [.lit (.bool true)], args := [d1, d2] }
  | _ => none }
def fnLoopTurnedRow : OpenClaim := { program := "ytppehdjfjigmmaa", sum := "94e12d5e7f282dba68048922cc890884a4880ad333918e59ef0b1db477191c16", func := "loop.example/mortiser/laws.FnLoopTurned", spec := "fnLoopTurned", unfollowed := true, recurses := true, apart := false }
def FnLoopTurnedSaid : Prop := fnLoopTurnedRow.holds Try.pinned (OpenSpec.ofChange fnLoopTurnedSpec)

/-- ITS FALSE NEIGHBOUR: 'it returns false'. Refute it at one input. -/
def fnLoopTurnedWrong : ChangeSpec := { name := "fnLoopTurned", fn := fun _ => fun
  | [d1, d2] => { results := [.lit (.bool false)], args := [d1, d2] }
  | _ => none }
def FnLoopTurnedWrongFalsely : Prop := fnLoopTurnedRow.holds Try.pinned (OpenSpec.ofChange fnLoopTurnedWrong)

/-- 'laws.FnLoopPick': WHATEVER THE INPUT: true; the input reads as it did. -/
def fnLoopPickSpec : ChangeSpec := { name := "fnLoopPick", fn := fun _ => fun
  | [d] => { results := [.lit (.bool true)], args := [d] }
  | _ => none }
def fnLoopPickRow : OpenClaim := { program := "ytppehdjfjigmmaa", sum := "94e12d5e7f282dba68048922cc890884a4880ad333918e59ef0b1db477191c16", func := "loop.example/mortiser/laws.FnLoopPick", spec := "fnLoopPick", unfollowed := true, recurses := true, apart := false }
def FnLoopPickSaid : Prop := fnLoopPickRow.holds Try.pinned (OpenSpec.ofChange fnLoopPickSpec)

/-- ITS FALSE NEIGHBOUR: 'it returns false'. Refute it at one input. -/
def fnLoopPickWrong : ChangeSpec := { name := "fnLoopPick", fn := fun _ => fun
  | [d] => { results := [.lit (.bool false)], args := [d] }
  | _ => none }
def FnLoopPickWrongFalsely : Prop := fnLoopPickRow.holds Try.pinned (OpenSpec.ofChange fnLoopPickWrong)

/-- 'laws.FnLoopCorners': WHATEVER THE INPUT: true; the input reads as it did. -/
def fnLoopCornersSpec : ChangeSpec := { name := "fnLoopCorners", fn := fun _ => fun
  | [d] => { results := [.lit (.bool true)], args := [d] }
  | _ => none }
def fnLoopCornersRow : OpenClaim := { program := "ytppehdjfjigmmaa", sum := "94e12d5e7f282dba68048922cc890884a4880ad333918e59ef0b1db477191c16", func := "loop.example/mortiser/laws.FnLoopCorners", spec := "fnLoopCorners", unfollowed := true, recurses := true, apart := false }
def FnLoopCornersSaid : Prop := fnLoopCornersRow.holds Try.pinned (OpenSpec.ofChange fnLoopCornersSpec)

/-- ITS FALSE NEIGHBOUR: 'it returns false'. Refute it at one input. -/
def fnLoopCornersWrong : ChangeSpec := { name := "fnLoopCorners", fn := fun _ => fun
  | [d] => { results := [.lit (.bool false)], args := [d] }
  | _ => none }
def FnLoopCornersWrongFalsely : Prop := fnLoopCornersRow.holds Try.pinned (OpenSpec.ofChange fnLoopCornersWrong)

/-- 'laws.FnExactLoopEdges': WHATEVER THE INPUT: true; the input reads as it did. -/
def fnExactLoopEdgesSpec : ChangeSpec := { name := "fnExactLoopEdges", fn := fun _ => fun
  | [d] => { results := [.lit (.bool true)], args := [d] }
  | _ => none }
def fnExactLoopEdgesRow : OpenClaim := { program := "ytppehdjfjigmmaa", sum := "94e12d5e7f282dba68048922cc890884a4880ad333918e59ef0b1db477191c16", func := "loop.example/mortiser/laws.FnExactLoopEdges", spec := "fnExactLoopEdges", unfollowed := true, recurses := true, apart := false }
def FnExactLoopEdgesSaid : Prop := fnExactLoopEdgesRow.holds Try.pinned (OpenSpec.ofChange fnExactLoopEdgesSpec)

/-- ITS FALSE NEIGHBOUR: 'it returns false'. Refute it at one input. -/
def fnExactLoopEdgesWrong : ChangeSpec := { name := "fnExactLoopEdges", fn := fun _ => fun
  | [d] => { results := [.lit (.bool false)], args := [d] }
  | _ => none }
def FnExactLoopEdgesWrongFalsely : Prop := fnExactLoopEdgesRow.holds Try.pinned (OpenSpec.ofChange fnExactLoopEdgesWrong)

/-- 'laws.FnLoopSize': WHATEVER THE INPUT: true; the input reads as it did. -/
def fnLoopSizeSpec : ChangeSpec := { name := "fnLoopSize", fn := fun _ => fun
  | [d1, d2] => { results := [.lit (.bool true)], args := [d1, d2] }
  | _ => none }
def fnLoopSizeRow : OpenClaim := { program := "ytppehdjfjigmmaa", sum := "94e12d5e7f282dba68048922cc890884a4880ad333918e59ef0b1db477191c16", func := "loop.example/mortiser/laws.FnLoopSize", spec := "fnLoopSize", unfollowed := true, recurses := true, apart := false }
def FnLoopSizeSaid : Prop := fnLoopSizeRow.holds Try.pinned (OpenSpec.ofChange fnLoopSizeSpec)

/-- ITS FALSE NEIGHBOUR: 'it returns false'. Refute it at one input. -/
def fnLoopSizeWrong : ChangeSpec := { name := "fnLoopSize", fn := fun _ => fun
  | [d1, d2] => { results := [.lit (.bool false)], args := [d1, d2] }
  | _ => none }
def FnLoopSizeWrongFalsely : Prop := fnLoopSizeRow.holds Try.pinned (OpenSpec.ofChange fnLoopSizeWrong)

/-- 'laws.FnLoopCross': WHATEVER THE INPUT: true; the input reads as it did. -/
def fnLoopCrossSpec : ChangeSpec := { name := "fnLoopCross", fn := fun _ => fun
  | [d1, d2] => { results := [.lit (.bool true)], args := [d1, d2] }
  | _ => none }
def fnLoopCrossRow : OpenClaim := { program := "ytppehdjfjigmmaa", sum := "94e12d5e7f282dba68048922cc890884a4880ad333918e59ef0b1db477191c16", func := "loop.example/mortiser/laws.FnLoopCross", spec := "fnLoopCross", unfollowed := true, recurses := true, apart := false }
def FnLoopCrossSaid : Prop := fnLoopCrossRow.holds Try.pinned (OpenSpec.ofChange fnLoopCrossSpec)

/-- ITS FALSE NEIGHBOUR: 'it returns false'. Refute it at one input. -/
def fnLoopCrossWrong : ChangeSpec := { name := "fnLoopCross", fn := fun _ => fun
  | [d1, d2] => { results := [.lit (.bool false)], args := [d1, d2] }
  | _ => none }
def FnLoopCrossWrongFalsely : Prop := fnLoopCrossRow.holds Try.pinned (OpenSpec.ofChange fnLoopCrossWrong)

/- THE SECOND FORM. 'bulk': how many values and letters a reading holds, each counted each time it is reached (what is shared counts as often as it is met; a slice's spare places count too). A statement '..UptoSaid' is the law's where the arguments, and the package variables that the reading takes, are together of bulk at most 1048576: NARROWER than '..Said'. Prove '..Said' where nothing that the law and all that it calls make is longer than what came in: it says more and counts as full. Else prove '..UptoSaid'. A law counts once. -/
mutual
def uptoBulk {H : Type} : DataW H → Nat
  | .lit (.string bytes) => bytes.length + 1
  | .lit _ => 1
  | .nil => 1
  | .ptr d => uptoBulk d + 1
  | .slice elems spare => uptoBulkAll elems + uptoBulkAll spare + 1
  | .agg parts => uptoBulkAll parts + 1
  | .iface _ d => uptoBulk d + 1
  | .map entries => uptoBulkEntries entries + 1
  | .held _ => 1
def uptoBulkAll {H : Type} : List (DataW H) → Nat
  | [] => 0
  | d :: r => uptoBulk d + uptoBulkAll r
def uptoBulkEntries {H : Type} : List (Lit × DataW H) → Nat
  | [] => 0
  | x :: r => uptoBulkEntry x + uptoBulkEntries r
def uptoBulkEntry {H : Type} : Lit × DataW H → Nat
  | (.string bytes, d) => bytes.length + uptoBulk d + 1
  | (_, d) => uptoBulk d + 1
 end
def uptoSmall : (H : Type) → List (DataW H) → Bool := fun _ ds => decide (uptoBulkAll ds ≤ 1048576)
def OpenSpec.upto (s : _root_.Go.ChangeSpec) : _root_.Go.OpenSpec := { _root_.Go.OpenSpec.ofChange s with cond := some uptoSmall }

/-- 'laws.FnExactLoopOk', WHERE WHAT IT READS IS OF BULK AT MOST 1048576: true; the input reads as it did. -/
def fnExactLoopOkUptoRow : OpenClaim := { program := "ytppehdjfjigmmaa", sum := "94e12d5e7f282dba68048922cc890884a4880ad333918e59ef0b1db477191c16", func := "loop.example/mortiser/laws.FnExactLoopOk", spec := "fnExactLoopOk", unfollowed := true, recurses := true, apart := false, narrowed := true }
def FnExactLoopOkUptoSaid : Prop := fnExactLoopOkUptoRow.holds Try.pinned (OpenSpec.upto fnExactLoopOkSpec)

/-- 'laws.FnExactLoopSize', WHERE WHAT IT READS IS OF BULK AT MOST 1048576: true; the input reads as it did. -/
def fnExactLoopSizeUptoRow : OpenClaim := { program := "ytppehdjfjigmmaa", sum := "94e12d5e7f282dba68048922cc890884a4880ad333918e59ef0b1db477191c16", func := "loop.example/mortiser/laws.FnExactLoopSize", spec := "fnExactLoopSize", unfollowed := true, recurses := true, apart := false, narrowed := true }
def FnExactLoopSizeUptoSaid : Prop := fnExactLoopSizeUptoRow.holds Try.pinned (OpenSpec.upto fnExactLoopSizeSpec)

/-- 'laws.FnLoopTwice', WHERE WHAT IT READS IS OF BULK AT MOST 1048576: true; the input reads as it did. -/
def fnLoopTwiceUptoRow : OpenClaim := { program := "ytppehdjfjigmmaa", sum := "94e12d5e7f282dba68048922cc890884a4880ad333918e59ef0b1db477191c16", func := "loop.example/mortiser/laws.FnLoopTwice", spec := "fnLoopTwice", unfollowed := true, recurses := true, apart := false, narrowed := true }
def FnLoopTwiceUptoSaid : Prop := fnLoopTwiceUptoRow.holds Try.pinned (OpenSpec.upto fnLoopTwiceSpec)

/-- 'laws.FnExactLoopIn', WHERE WHAT IT READS IS OF BULK AT MOST 1048576: true; the input reads as it did. -/
def fnExactLoopInUptoRow : OpenClaim := { program := "ytppehdjfjigmmaa", sum := "94e12d5e7f282dba68048922cc890884a4880ad333918e59ef0b1db477191c16", func := "loop.example/mortiser/laws.FnExactLoopIn", spec := "fnExactLoopIn", unfollowed := true, recurses := true, apart := false, narrowed := true }
def FnExactLoopInUptoSaid : Prop := fnExactLoopInUptoRow.holds Try.pinned (OpenSpec.upto fnExactLoopInSpec)

/-- 'laws.FnLoopApart', WHERE WHAT IT READS IS OF BULK AT MOST 1048576: true; the input reads as it did. -/
def fnLoopApartUptoRow : OpenClaim := { program := "ytppehdjfjigmmaa", sum := "94e12d5e7f282dba68048922cc890884a4880ad333918e59ef0b1db477191c16", func := "loop.example/mortiser/laws.FnLoopApart", spec := "fnLoopApart", unfollowed := true, recurses := true, apart := false, narrowed := true }
def FnLoopApartUptoSaid : Prop := fnLoopApartUptoRow.holds Try.pinned (OpenSpec.upto fnLoopApartSpec)

/-- 'laws.FnLoopStraight', WHERE WHAT IT READS IS OF BULK AT MOST 1048576: true; the input reads as it did. -/
def fnLoopStraightUptoRow : OpenClaim := { program := "ytppehdjfjigmmaa", sum := "94e12d5e7f282dba68048922cc890884a4880ad333918e59ef0b1db477191c16", func := "loop.example/mortiser/laws.FnLoopStraight", spec := "fnLoopStraight", unfollowed := true, recurses := true, apart := false, narrowed := true }
def FnLoopStraightUptoSaid : Prop := fnLoopStraightUptoRow.holds Try.pinned (OpenSpec.upto fnLoopStraightSpec)

/-- 'laws.FnLoopTurned', WHERE WHAT IT READS IS OF BULK AT MOST 1048576: true; the input reads as it did. -/
def fnLoopTurnedUptoRow : OpenClaim := { program := "ytppehdjfjigmmaa", sum := "94e12d5e7f282dba68048922cc890884a4880ad333918e59ef0b1db477191c16", func := "loop.example/mortiser/laws.FnLoopTurned", spec := "fnLoopTurned", unfollowed := true, recurses := true, apart := false, narrowed := true }
def FnLoopTurnedUptoSaid : Prop := fnLoopTurnedUptoRow.holds Try.pinned (OpenSpec.upto fnLoopTurnedSpec)

/-- 'laws.FnLoopPick', WHERE WHAT IT READS IS OF BULK AT MOST 1048576: true; the input reads as it did. -/
def fnLoopPickUptoRow : OpenClaim := { program := "ytppehdjfjigmmaa", sum := "94e12d5e7f282dba68048922cc890884a4880ad333918e59ef0b1db477191c16", func := "loop.example/mortiser/laws.FnLoopPick", spec := "fnLoopPick", unfollowed := true, recurses := true, apart := false, narrowed := true }
def FnLoopPickUptoSaid : Prop := fnLoopPickUptoRow.holds Try.pinned (OpenSpec.upto fnLoopPickSpec)

/-- 'laws.FnLoopCorners', WHERE WHAT IT READS IS OF BULK AT MOST 1048576: true; the input reads as it did. -/
def fnLoopCornersUptoRow : OpenClaim := { program := "ytppehdjfjigmmaa", sum := "94e12d5e7f282dba68048922cc890884a4880ad333918e59ef0b1db477191c16", func := "loop.example/mortiser/laws.FnLoopCorners", spec := "fnLoopCorners", unfollowed := true, recurses := true, apart := false, narrowed := true }
def FnLoopCornersUptoSaid : Prop := fnLoopCornersUptoRow.holds Try.pinned (OpenSpec.upto fnLoopCornersSpec)

/-- 'laws.FnExactLoopEdges', WHERE WHAT IT READS IS OF BULK AT MOST 1048576: true; the input reads as it did. -/
def fnExactLoopEdgesUptoRow : OpenClaim := { program := "ytppehdjfjigmmaa", sum := "94e12d5e7f282dba68048922cc890884a4880ad333918e59ef0b1db477191c16", func := "loop.example/mortiser/laws.FnExactLoopEdges", spec := "fnExactLoopEdges", unfollowed := true, recurses := true, apart := false, narrowed := true }
def FnExactLoopEdgesUptoSaid : Prop := fnExactLoopEdgesUptoRow.holds Try.pinned (OpenSpec.upto fnExactLoopEdgesSpec)

/-- 'laws.FnLoopSize', WHERE WHAT IT READS IS OF BULK AT MOST 1048576: true; the input reads as it did. -/
def fnLoopSizeUptoRow : OpenClaim := { program := "ytppehdjfjigmmaa", sum := "94e12d5e7f282dba68048922cc890884a4880ad333918e59ef0b1db477191c16", func := "loop.example/mortiser/laws.FnLoopSize", spec := "fnLoopSize", unfollowed := true, recurses := true, apart := false, narrowed := true }
def FnLoopSizeUptoSaid : Prop := fnLoopSizeUptoRow.holds Try.pinned (OpenSpec.upto fnLoopSizeSpec)

/-- 'laws.FnLoopCross', WHERE WHAT IT READS IS OF BULK AT MOST 1048576: true; the input reads as it did. -/
def fnLoopCrossUptoRow : OpenClaim := { program := "ytppehdjfjigmmaa", sum := "94e12d5e7f282dba68048922cc890884a4880ad333918e59ef0b1db477191c16", func := "loop.example/mortiser/laws.FnLoopCross", spec := "fnLoopCross", unfollowed := true, recurses := true, apart := false, narrowed := true }
def FnLoopCrossUptoSaid : Prop := fnLoopCrossUptoRow.holds Try.pinned (OpenSpec.upto fnLoopCrossSpec)

end Rows
end Go.Proofs.Ytppehdjfjigmmaa
