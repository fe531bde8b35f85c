/-
  No cell of these rows narrows 'for every input' (looked for: loops, veiled, ifaces, maps, wideKeys, modest, calm, conditions, laid).
  DERIVED. THE GIVEN ROWS OF THIS SEAT. 9 by the template 'for every input the law returns true; each argument reads behind the call as it read before'; 0 by the template 'total and deterministic' (their statements: YtodeiejmllbkiaaTotals.lean).
  GIVEN WITH THE SEED: the statements are not yours to turn. If you find one false, say at which input.
  Laid BY PROGRAM, IN A SANDBOX (cutbox-rows.mjs): the forced cells as the released guide's own fill.sh prints them over the translation 8c8f1eebf2444ea3… (all of the seat's roots in one cut). By AI agents, Wed Nov 11 2026. No macro, syntax, notation, axiom, sorry.
-/
import Derived.Test.YtodeiejmllbkiaaChecked
import GoSem.Claim
import GoSem.ClaimJoined
import GoSem.ClaimMapViews
import Derived.JoinedTies
import Derived.KernelRfl
namespace Go.Proofs.Ytodeiejmllbkiaa
/- THE CELL 'sum', in the pinned program and in every row, IS THE sha256 OF THE DUMP (.gsa) THAT YtodeiejmllbkiaaProg.lean LOADS. Nothing in Lean hashes anything: it is a label: what it is worth is what the hold of that sum in a sandbox is worth. -/
noncomputable def Try.pinned : Pinned := { name := "ytodeiejmllbkiaa", sum := "8c8f1eebf2444ea37fdb7d9cd2248809d5b299c1b663b57ea5487aa94198f1d4", checked := Try.checked }
namespace Rows
def none {H : Type} : Left H := { results := [], args := [] }

/-- 'laws.FnExactSegMeet': WHATEVER THE INPUT: true; the input reads as it did. -/
def fnExactSegMeetSpec : ChangeSpec := { name := "fnExactSegMeet", fn := fun _ => fun
  | [d1, d2] => { results := [.lit (.bool true)], args := [d1, d2] }
  | _ => none }
def fnExactSegMeetRow : OpenClaim := { program := "ytodeiejmllbkiaa", sum := "8c8f1eebf2444ea37fdb7d9cd2248809d5b299c1b663b57ea5487aa94198f1d4", func := "loop.example/mortiser/laws.FnExactSegMeet", spec := "fnExactSegMeet", apart := false }
def FnExactSegMeetSaid : Prop := fnExactSegMeetRow.holds Try.pinned (OpenSpec.ofChange fnExactSegMeetSpec)

/-- ITS FALSE NEIGHBOUR: 'it returns false'. Refute it at one input. -/
def fnExactSegMeetWrong : ChangeSpec := { name := "fnExactSegMeet", fn := fun _ => fun
  | [d1, d2] => { results := [.lit (.bool false)], args := [d1, d2] }
  | _ => none }
def FnExactSegMeetWrongFalsely : Prop := fnExactSegMeetRow.holds Try.pinned (OpenSpec.ofChange fnExactSegMeetWrong)

/-- 'laws.FnHasEnds': WHATEVER THE INPUT: true; the input reads as it did. -/
def fnHasEndsSpec : ChangeSpec := { name := "fnHasEnds", fn := fun _ => fun
  | [d] => { results := [.lit (.bool true)], args := [d] }
  | _ => none }
def fnHasEndsRow : OpenClaim := { program := "ytodeiejmllbkiaa", sum := "8c8f1eebf2444ea37fdb7d9cd2248809d5b299c1b663b57ea5487aa94198f1d4", func := "loop.example/mortiser/laws.FnHasEnds", spec := "fnHasEnds", apart := false }
def FnHasEndsSaid : Prop := fnHasEndsRow.holds Try.pinned (OpenSpec.ofChange fnHasEndsSpec)

/-- ITS FALSE NEIGHBOUR: 'it returns false'. Refute it at one input. -/
def fnHasEndsWrong : ChangeSpec := { name := "fnHasEnds", fn := fun _ => fun
  | [d] => { results := [.lit (.bool false)], args := [d] }
  | _ => none }
def FnHasEndsWrongFalsely : Prop := fnHasEndsRow.holds Try.pinned (OpenSpec.ofChange fnHasEndsWrong)

/-- 'laws.FnExactSegFar': WHATEVER THE INPUT: true; the input reads as it did. -/
def fnExactSegFarSpec : ChangeSpec := { name := "fnExactSegFar", fn := fun _ => fun
  | [d1, d2] => { results := [.lit (.bool true)], args := [d1, d2] }
  | _ => none }
def fnExactSegFarRow : OpenClaim := { program := "ytodeiejmllbkiaa", sum := "8c8f1eebf2444ea37fdb7d9cd2248809d5b299c1b663b57ea5487aa94198f1d4", func := "loop.example/mortiser/laws.FnExactSegFar", spec := "fnExactSegFar", unfollowed := true, recurses := true, apart := false }
def FnExactSegFarSaid : Prop := fnExactSegFarRow.holds Try.pinned (OpenSpec.ofChange fnExactSegFarSpec)

/-- ITS FALSE NEIGHBOUR: 'it returns false'. Refute it at one input. -/
def fnExactSegFarWrong : ChangeSpec := { name := "fnExactSegFar", fn := fun _ => fun
  | [d1, d2] => { results := [.lit (.bool false)], args := [d1, d2] }
  | _ => none }
def FnExactSegFarWrongFalsely : Prop := fnExactSegFarRow.holds Try.pinned (OpenSpec.ofChange fnExactSegFarWrong)

/-- 'laws.FnHasFar': WHATEVER THE INPUT: true; the input reads as it did. -/
def fnHasFarSpec : ChangeSpec := { name := "fnHasFar", fn := fun _ => fun
  | [d] => { results := [.lit (.bool true)], args := [d] }
  | _ => none }
def fnHasFarRow : OpenClaim := { program := "ytodeiejmllbkiaa", sum := "8c8f1eebf2444ea37fdb7d9cd2248809d5b299c1b663b57ea5487aa94198f1d4", func := "loop.example/mortiser/laws.FnHasFar", spec := "fnHasFar", unfollowed := true, recurses := true, apart := false }
def FnHasFarSaid : Prop := fnHasFarRow.holds Try.pinned (OpenSpec.ofChange fnHasFarSpec)

/-- ITS FALSE NEIGHBOUR: 'it returns false'. Refute it at one input. -/
def fnHasFarWrong : ChangeSpec := { name := "fnHasFar", fn := fun _ => fun
  | [d] => { results := [.lit (.bool false)], args := [d] }
  | _ => none }
def FnHasFarWrongFalsely : Prop := fnHasFarRow.holds Try.pinned (OpenSpec.ofChange fnHasFarWrong)

/-- 'laws.FnMeetHas': WHATEVER THE INPUT: true; the input reads as it did. -/
def fnMeetHasSpec : ChangeSpec := { name := "fnMeetHas", fn := fun _ => fun
  | [d] => { results := [.lit (.bool true)], args := [d] }
  | _ => none }
def fnMeetHasRow : OpenClaim := { program := "ytodeiejmllbkiaa", sum := "8c8f1eebf2444ea37fdb7d9cd2248809d5b299c1b663b57ea5487aa94198f1d4", func := "loop.example/mortiser/laws.FnMeetHas", spec := "fnMeetHas", apart := false }
def FnMeetHasSaid : Prop := fnMeetHasRow.holds Try.pinned (OpenSpec.ofChange fnMeetHasSpec)

/-- ITS FALSE NEIGHBOUR: 'it returns false'. Refute it at one input. -/
def fnMeetHasWrong : ChangeSpec := { name := "fnMeetHas", fn := fun _ => fun
  | [d] => { results := [.lit (.bool false)], args := [d] }
  | _ => none }
def FnMeetHasWrongFalsely : Prop := fnMeetHasRow.holds Try.pinned (OpenSpec.ofChange fnMeetHasWrong)

/-- 'laws.FnMeetParts': WHATEVER THE INPUT: true; the input reads as it did. -/
def fnMeetPartsSpec : ChangeSpec := { name := "fnMeetParts", fn := fun _ => fun
  | [d1, d2] => { results := [.lit (.bool true)], args := [d1, d2] }
  | _ => none }
def fnMeetPartsRow : OpenClaim := { program := "ytodeiejmllbkiaa", sum := "8c8f1eebf2444ea37fdb7d9cd2248809d5b299c1b663b57ea5487aa94198f1d4", func := "loop.example/mortiser/laws.FnMeetParts", spec := "fnMeetParts", apart := false }
def FnMeetPartsSaid : Prop := fnMeetPartsRow.holds Try.pinned (OpenSpec.ofChange fnMeetPartsSpec)

/-- ITS FALSE NEIGHBOUR: 'it returns false'. Refute it at one input. -/
def fnMeetPartsWrong : ChangeSpec := { name := "fnMeetParts", fn := fun _ => fun
  | [d1, d2] => { results := [.lit (.bool false)], args := [d1, d2] }
  | _ => none }
def FnMeetPartsWrongFalsely : Prop := fnMeetPartsRow.holds Try.pinned (OpenSpec.ofChange fnMeetPartsWrong)

/-- 'laws.FnMeetBoth': WHATEVER THE INPUT: true; the input reads as it did. -/
def fnMeetBothSpec : ChangeSpec := { name := "fnMeetBoth", fn := fun _ => fun
  | [d] => { results := [.lit (.bool true)], args := [d] }
  | _ => none }
def fnMeetBothRow : OpenClaim := { program := "ytodeiejmllbkiaa", sum := "8c8f1eebf2444ea37fdb7d9cd2248809d5b299c1b663b57ea5487aa94198f1d4", func := "loop.example/mortiser/laws.FnMeetBoth", spec := "fnMeetBoth", apart := false }
def FnMeetBothSaid : Prop := fnMeetBothRow.holds Try.pinned (OpenSpec.ofChange fnMeetBothSpec)

/-- ITS FALSE NEIGHBOUR: 'it returns false'. Refute it at one input. -/
def fnMeetBothWrong : ChangeSpec := { name := "fnMeetBoth", fn := fun _ => fun
  | [d] => { results := [.lit (.bool false)], args := [d] }
  | _ => none }
def FnMeetBothWrongFalsely : Prop := fnMeetBothRow.holds Try.pinned (OpenSpec.ofChange fnMeetBothWrong)

/-- 'laws.FnFarShift': WHATEVER THE INPUT: true; the input reads as it did. -/
def fnFarShiftSpec : ChangeSpec := { name := "fnFarShift", fn := fun _ => fun
  | [d] => { results := [.lit (.bool true)], args := [d] }
  | _ => none }
def fnFarShiftRow : OpenClaim := { program := "ytodeiejmllbkiaa", sum := "8c8f1eebf2444ea37fdb7d9cd2248809d5b299c1b663b57ea5487aa94198f1d4", func := "loop.example/mortiser/laws.FnFarShift", spec := "fnFarShift", unfollowed := true, recurses := true, apart := false }
def FnFarShiftSaid : Prop := fnFarShiftRow.holds Try.pinned (OpenSpec.ofChange fnFarShiftSpec)

/-- ITS FALSE NEIGHBOUR: 'it returns false'. Refute it at one input. -/
def fnFarShiftWrong : ChangeSpec := { name := "fnFarShift", fn := fun _ => fun
  | [d] => { results := [.lit (.bool false)], args := [d] }
  | _ => none }
def FnFarShiftWrongFalsely : Prop := fnFarShiftRow.holds Try.pinned (OpenSpec.ofChange fnFarShiftWrong)

/-- 'laws.FnHasMirror': WHATEVER THE INPUT: true; the input reads as it did. -/
def fnHasMirrorSpec : ChangeSpec := { name := "fnHasMirror", fn := fun _ => fun
  | [d] => { results := [.lit (.bool true)], args := [d] }
  | _ => none }
def fnHasMirrorRow : OpenClaim := { program := "ytodeiejmllbkiaa", sum := "8c8f1eebf2444ea37fdb7d9cd2248809d5b299c1b663b57ea5487aa94198f1d4", func := "loop.example/mortiser/laws.FnHasMirror", spec := "fnHasMirror", unfollowed := true, recurses := true, apart := false }
def FnHasMirrorSaid : Prop := fnHasMirrorRow.holds Try.pinned (OpenSpec.ofChange fnHasMirrorSpec)

/-- ITS FALSE NEIGHBOUR: 'it returns false'. Refute it at one input. -/
def fnHasMirrorWrong : ChangeSpec := { name := "fnHasMirror", fn := fun _ => fun
  | [d] => { results := [.lit (.bool false)], args := [d] }
  | _ => none }
def FnHasMirrorWrongFalsely : Prop := fnHasMirrorRow.holds Try.pinned (OpenSpec.ofChange fnHasMirrorWrong)

/- THE SECOND FORM. 'bulk': how many values and letters a reading holds, each counted each time it is reached (what is shared counts as often as it is met; a slice's spare places count too). A statement '..UptoSaid' is the law's where the arguments, and the package variables that the reading takes, are together of bulk at most 1048576: NARROWER than '..Said'. Prove '..Said' where nothing that the law and all that it calls make is longer than what came in: it says more and counts as full. Else prove '..UptoSaid'. A law counts once. -/
mutual
def uptoBulk {H : Type} : DataW H → Nat
  | .lit (.string bytes) => bytes.length + 1
  | .lit _ => 1
  | .nil => 1
  | .ptr d => uptoBulk d + 1
  | .slice elems spare => uptoBulkAll elems + uptoBulkAll spare + 1
  | .agg parts => uptoBulkAll parts + 1
  | .iface _ d => uptoBulk d + 1
  | .map entries => uptoBulkEntries entries + 1
  | .held _ => 1
def uptoBulkAll {H : Type} : List (DataW H) → Nat
  | [] => 0
  | d :: r => uptoBulk d + uptoBulkAll r
def uptoBulkEntries {H : Type} : List (Lit × DataW H) → Nat
  | [] => 0
  | x :: r => uptoBulkEntry x + uptoBulkEntries r
def uptoBulkEntry {H : Type} : Lit × DataW H → Nat
  | (.string bytes, d) => bytes.length + uptoBulk d + 1
  | (_, d) => uptoBulk d + 1
 end
def uptoSmall : (H : Type) → List (DataW H) → Bool := fun _ ds => decide (uptoBulkAll ds ≤ 1048576)
def OpenSpec.upto (s : _root_.Go.ChangeSpec) : _root_.Go.OpenSpec := { _root_.Go.OpenSpec.ofChange s with cond := some uptoSmall }

/-- 'laws.FnExactSegMeet', WHERE WHAT IT READS IS OF BULK AT MOST 1048576: true; the input reads as it did. -/
def fnExactSegMeetUptoRow : OpenClaim := { program := "ytodeiejmllbkiaa", sum := "8c8f1eebf2444ea37fdb7d9cd2248809d5b299c1b663b57ea5487aa94198f1d4", func := "loop.example/mortiser/laws.FnExactSegMeet", spec := "fnExactSegMeet", apart := false, narrowed := true }
def FnExactSegMeetUptoSaid : Prop := fnExactSegMeetUptoRow.holds Try.pinned (OpenSpec.upto fnExactSegMeetSpec)

/-- 'laws.FnHasEnds', WHERE WHAT IT READS IS OF BULK AT MOST 1048576: true; the input reads as it did. -/
def fnHasEndsUptoRow : OpenClaim := { program := "ytodeiejmllbkiaa", sum := "8c8f1eebf2444ea37fdb7d9cd2248809d5b299c1b663b57ea5487aa94198f1d4", func := "loop.example/mortiser/laws.FnHasEnds", spec := "fnHasEnds", apart := false, narrowed := true }
def FnHasEndsUptoSaid : Prop := fnHasEndsUptoRow.holds Try.pinned (OpenSpec.upto fnHasEndsSpec)

/-- 'laws.FnExactSegFar', WHERE WHAT IT READS IS OF BULK AT MOST 1048576: true; the input reads as it did. -/
def fnExactSegFarUptoRow : OpenClaim := { program := "ytodeiejmllbkiaa", sum := "8c8f1eebf2444ea37fdb7d9cd2248809d5b299c1b663b57ea5487aa94198f1d4", func := "loop.example/mortiser/laws.FnExactSegFar", spec := "fnExactSegFar", unfollowed := true, recurses := true, apart := false, narrowed := true }
def FnExactSegFarUptoSaid : Prop := fnExactSegFarUptoRow.holds Try.pinned (OpenSpec.upto fnExactSegFarSpec)

/-- 'laws.FnHasFar', WHERE WHAT IT READS IS OF BULK AT MOST 1048576: true; the input reads as it did. -/
def fnHasFarUptoRow : OpenClaim := { program := "ytodeiejmllbkiaa", sum := "8c8f1eebf2444ea37fdb7d9cd2248809d5b299c1b663b57ea5487aa94198f1d4", func := "loop.example/mortiser/laws.FnHasFar", spec := "fnHasFar", unfollowed := true, recurses := true, apart := false, narrowed := true }
def FnHasFarUptoSaid : Prop := fnHasFarUptoRow.holds Try.pinned (OpenSpec.upto fnHasFarSpec)

/-- 'laws.FnMeetHas', WHERE WHAT IT READS IS OF BULK AT MOST 1048576: true; the input reads as it did. -/
def fnMeetHasUptoRow : OpenClaim := { program := "ytodeiejmllbkiaa", sum := "8c8f1eebf2444ea37fdb7d9cd2248809d5b299c1b663b57ea5487aa94198f1d4", func := "loop.example/mortiser/laws.FnMeetHas", spec := "fnMeetHas", apart := false, narrowed := true }
def FnMeetHasUptoSaid : Prop := fnMeetHasUptoRow.holds Try.pinned (OpenSpec.upto fnMeetHasSpec)

/-- 'laws.FnMeetParts', WHERE WHAT IT READS IS OF BULK AT MOST 1048576: true; the input reads as it did. -/
def fnMeetPartsUptoRow : OpenClaim := { program := "ytodeiejmllbkiaa", sum := "8c8f1eebf2444ea37fdb7d9cd2248809d5b299c1b663b57ea5487aa94198f1d4", func := "loop.example/mortiser/laws.FnMeetParts", spec := "fnMeetParts", apart := false, narrowed := true }
def FnMeetPartsUptoSaid : Prop := fnMeetPartsUptoRow.holds Try.pinned (OpenSpec.upto fnMeetPartsSpec)

/-- 'laws.FnMeetBoth', WHERE WHAT IT READS IS OF BULK AT MOST 1048576: true; the input reads as it did. -/
def fnMeetBothUptoRow : OpenClaim := { program := "ytodeiejmllbkiaa", sum := "8c8f1eebf2444ea37fdb7d9cd2248809d5b299c1b663b57ea5487aa94198f1d4", func := "loop.example/mortiser/laws.FnMeetBoth", spec := "fnMeetBoth", apart := false, narrowed := true }
def FnMeetBothUptoSaid : Prop := fnMeetBothUptoRow.holds Try.pinned (OpenSpec.upto fnMeetBothSpec)

/-- 'laws.FnFarShift', WHERE WHAT IT READS IS OF BULK AT MOST 1048576: true; the input reads as it did. -/
def fnFarShiftUptoRow : OpenClaim := { program := "ytodeiejmllbkiaa", sum := "8c8f1eebf2444ea37fdb7d9cd2248809d5b299c1b663b57ea5487aa94198f1d4", func := "loop.example/mortiser/laws.FnFarShift", spec := "fnFarShift", unfollowed := true, recurses := true, apart := false, narrowed := true }
def FnFarShiftUptoSaid : Prop := fnFarShiftUptoRow.holds Try.pinned (OpenSpec.upto fnFarShiftSpec)

/-- 'laws.FnHasMirror', WHERE WHAT IT READS IS OF BULK AT MOST 1048576: true; the input reads as it did. -/
def fnHasMirrorUptoRow : OpenClaim := { program := "ytodeiejmllbkiaa", sum := "8c8f1eebf2444ea37fdb7d9cd2248809d5b299c1b663b57ea5487aa94198f1d4", func := "loop.example/mortiser/laws.FnHasMirror", spec := "fnHasMirror", unfollowed := true, recurses := true, apart := false, narrowed := true }
def FnHasMirrorUptoSaid : Prop := fnHasMirrorUptoRow.holds Try.pinned (OpenSpec.upto fnHasMirrorSpec)

end Rows
end Go.Proofs.Ytodeiejmllbkiaa
