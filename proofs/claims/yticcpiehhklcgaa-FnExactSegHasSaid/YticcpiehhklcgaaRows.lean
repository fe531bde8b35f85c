/-
  No cell of these rows narrows 'for every input' (looked for: loops, veiled, ifaces, maps, wideKeys, modest, calm, conditions, laid).
  DERIVED. THE GIVEN ROWS OF THIS SEAT. 10 by the template 'for every input the law returns true; each argument reads behind the call as it read before'; 0 by the template 'total and deterministic' (their statements: YticcpiehhklcgaaTotals.lean).
  GIVEN WITH THE SEED: the statements are not yours to turn. If you find one false, say at which input.
  Laid BY PROGRAM, IN A SANDBOX (cutbox-rows.mjs): the forced cells as the released guide's own fill.sh prints them over the translation 891477197c1340d4… (all of the seat's roots in one cut). By AI agents, Wed Nov 11 2026. No macro, syntax, notation, axiom, sorry.
-/
import Derived.Test.YticcpiehhklcgaaChecked
import GoSem.Claim
import GoSem.ClaimJoined
import GoSem.ClaimMapViews
import Derived.JoinedTies
import Derived.KernelRfl
namespace Go.Proofs.Yticcpiehhklcgaa
/- THE CELL 'sum', in the pinned program and in every row, IS THE sha256 OF THE DUMP (.gsa) THAT YticcpiehhklcgaaProg.lean LOADS. Nothing in Lean hashes anything: it is a label: what it is worth is what the hold of that sum in a sandbox is worth. -/
noncomputable def Try.pinned : Pinned := { name := "yticcpiehhklcgaa", sum := "891477197c1340d4853f61d03d669f12c6dfc666547c26eb87800045552df297", checked := Try.checked }
namespace Rows
def none {H : Type} : Left H := { results := [], args := [] }

/-- 'laws.FnExactConstants': WHATEVER THE INPUT: true; the input reads as it did. -/
def fnExactConstantsSpec : ChangeSpec := { name := "fnExactConstants", fn := fun _ => fun
  | [] => { results := [.lit (.bool true)], args := [] }
  | _ => none }
def fnExactConstantsRow : OpenClaim := { program := "yticcpiehhklcgaa", sum := "891477197c1340d4853f61d03d669f12c6dfc666547c26eb87800045552df297", func := "loop.example/mortiser/laws.FnExactConstants", spec := "fnExactConstants", apart := false }
def FnExactConstantsSaid : Prop := fnExactConstantsRow.holds Try.pinned (OpenSpec.ofChange fnExactConstantsSpec)

/-- ITS FALSE NEIGHBOUR: 'it returns false'. Refute it at one input. -/
def fnExactConstantsWrong : ChangeSpec := { name := "fnExactConstants", fn := fun _ => fun
  | [] => { results := [.lit (.bool false)], args := [] }
  | _ => none }
def FnExactConstantsWrongFalsely : Prop := fnExactConstantsRow.holds Try.pinned (OpenSpec.ofChange fnExactConstantsWrong)

/-- 'laws.FnExactPtOk': WHATEVER THE INPUT: true; the input reads as it did. -/
def fnExactPtOkSpec : ChangeSpec := { name := "fnExactPtOk", fn := fun _ => fun
  | [d] => { results := [.lit (.bool true)], args := [d] }
  | _ => none }
def fnExactPtOkRow : OpenClaim := { program := "yticcpiehhklcgaa", sum := "891477197c1340d4853f61d03d669f12c6dfc666547c26eb87800045552df297", func := "loop.example/mortiser/laws.FnExactPtOk", spec := "fnExactPtOk", apart := false }
def FnExactPtOkSaid : Prop := fnExactPtOkRow.holds Try.pinned (OpenSpec.ofChange fnExactPtOkSpec)

/-- ITS FALSE NEIGHBOUR: 'it returns false'. Refute it at one input. -/
def fnExactPtOkWrong : ChangeSpec := { name := "fnExactPtOk", fn := fun _ => fun
  | [d] => { results := [.lit (.bool false)], args := [d] }
  | _ => none }
def FnExactPtOkWrongFalsely : Prop := fnExactPtOkRow.holds Try.pinned (OpenSpec.ofChange fnExactPtOkWrong)

/-- 'laws.FnExactSegOk': WHATEVER THE INPUT: true; the input reads as it did. -/
def fnExactSegOkSpec : ChangeSpec := { name := "fnExactSegOk", fn := fun _ => fun
  | [d] => { results := [.lit (.bool true)], args := [d] }
  | _ => none }
def fnExactSegOkRow : OpenClaim := { program := "yticcpiehhklcgaa", sum := "891477197c1340d4853f61d03d669f12c6dfc666547c26eb87800045552df297", func := "loop.example/mortiser/laws.FnExactSegOk", spec := "fnExactSegOk", apart := false }
def FnExactSegOkSaid : Prop := fnExactSegOkRow.holds Try.pinned (OpenSpec.ofChange fnExactSegOkSpec)

/-- ITS FALSE NEIGHBOUR: 'it returns false'. Refute it at one input. -/
def fnExactSegOkWrong : ChangeSpec := { name := "fnExactSegOk", fn := fun _ => fun
  | [d] => { results := [.lit (.bool false)], args := [d] }
  | _ => none }
def FnExactSegOkWrongFalsely : Prop := fnExactSegOkRow.holds Try.pinned (OpenSpec.ofChange fnExactSegOkWrong)

/-- 'laws.FnExactFracOf': WHATEVER THE INPUT: true; the input reads as it did. -/
def fnExactFracOfSpec : ChangeSpec := { name := "fnExactFracOf", fn := fun _ => fun
  | [d1, d2] => { results := [.lit (.bool true)], args := [d1, d2] }
  | _ => none }
def fnExactFracOfRow : OpenClaim := { program := "yticcpiehhklcgaa", sum := "891477197c1340d4853f61d03d669f12c6dfc666547c26eb87800045552df297", func := "loop.example/mortiser/laws.FnExactFracOf", spec := "fnExactFracOf", apart := false }
def FnExactFracOfSaid : Prop := fnExactFracOfRow.holds Try.pinned (OpenSpec.ofChange fnExactFracOfSpec)

/-- ITS FALSE NEIGHBOUR: 'it returns false'. Refute it at one input. -/
def fnExactFracOfWrong : ChangeSpec := { name := "fnExactFracOf", fn := fun _ => fun
  | [d1, d2] => { results := [.lit (.bool false)], args := [d1, d2] }
  | _ => none }
def FnExactFracOfWrongFalsely : Prop := fnExactFracOfRow.holds Try.pinned (OpenSpec.ofChange fnExactFracOfWrong)

/-- 'laws.FnExactSegTurn': WHATEVER THE INPUT: true; the input reads as it did. -/
def fnExactSegTurnSpec : ChangeSpec := { name := "fnExactSegTurn", fn := fun _ => fun
  | [d1, d2, d3] => { results := [.lit (.bool true)], args := [d1, d2, d3] }
  | _ => none }
def fnExactSegTurnRow : OpenClaim := { program := "yticcpiehhklcgaa", sum := "891477197c1340d4853f61d03d669f12c6dfc666547c26eb87800045552df297", func := "loop.example/mortiser/laws.FnExactSegTurn", spec := "fnExactSegTurn", apart := false }
def FnExactSegTurnSaid : Prop := fnExactSegTurnRow.holds Try.pinned (OpenSpec.ofChange fnExactSegTurnSpec)

/-- ITS FALSE NEIGHBOUR: 'it returns false'. Refute it at one input. -/
def fnExactSegTurnWrong : ChangeSpec := { name := "fnExactSegTurn", fn := fun _ => fun
  | [d1, d2, d3] => { results := [.lit (.bool false)], args := [d1, d2, d3] }
  | _ => none }
def FnExactSegTurnWrongFalsely : Prop := fnExactSegTurnRow.holds Try.pinned (OpenSpec.ofChange fnExactSegTurnWrong)

/-- 'laws.FnPtGrid': WHATEVER THE INPUT: true; the input reads as it did. -/
def fnPtGridSpec : ChangeSpec := { name := "fnPtGrid", fn := fun _ => fun
  | [d] => { results := [.lit (.bool true)], args := [d] }
  | _ => none }
def fnPtGridRow : OpenClaim := { program := "yticcpiehhklcgaa", sum := "891477197c1340d4853f61d03d669f12c6dfc666547c26eb87800045552df297", func := "loop.example/mortiser/laws.FnPtGrid", spec := "fnPtGrid", apart := false }
def FnPtGridSaid : Prop := fnPtGridRow.holds Try.pinned (OpenSpec.ofChange fnPtGridSpec)

/-- ITS FALSE NEIGHBOUR: 'it returns false'. Refute it at one input. -/
def fnPtGridWrong : ChangeSpec := { name := "fnPtGrid", fn := fun _ => fun
  | [d] => { results := [.lit (.bool false)], args := [d] }
  | _ => none }
def FnPtGridWrongFalsely : Prop := fnPtGridRow.holds Try.pinned (OpenSpec.ofChange fnPtGridWrong)

/-- 'laws.FnExactSegHas': WHATEVER THE INPUT: true; the input reads as it did. -/
def fnExactSegHasSpec : ChangeSpec := { name := "fnExactSegHas", fn := fun _ => fun
  | [d1, d2] => { results := [.lit (.bool true)], args := [d1, d2] }
  | _ => none }
def fnExactSegHasRow : OpenClaim := { program := "yticcpiehhklcgaa", sum := "891477197c1340d4853f61d03d669f12c6dfc666547c26eb87800045552df297", func := "loop.example/mortiser/laws.FnExactSegHas", spec := "fnExactSegHas", apart := false }
def FnExactSegHasSaid : Prop := fnExactSegHasRow.holds Try.pinned (OpenSpec.ofChange fnExactSegHasSpec)

/-- ITS FALSE NEIGHBOUR: 'it returns false'. Refute it at one input. -/
def fnExactSegHasWrong : ChangeSpec := { name := "fnExactSegHas", fn := fun _ => fun
  | [d1, d2] => { results := [.lit (.bool false)], args := [d1, d2] }
  | _ => none }
def FnExactSegHasWrongFalsely : Prop := fnExactSegHasRow.holds Try.pinned (OpenSpec.ofChange fnExactSegHasWrong)

/-- 'laws.FnSegBack': WHATEVER THE INPUT: true; the input reads as it did. -/
def fnSegBackSpec : ChangeSpec := { name := "fnSegBack", fn := fun _ => fun
  | [d] => { results := [.lit (.bool true)], args := [d] }
  | _ => none }
def fnSegBackRow : OpenClaim := { program := "yticcpiehhklcgaa", sum := "891477197c1340d4853f61d03d669f12c6dfc666547c26eb87800045552df297", func := "loop.example/mortiser/laws.FnSegBack", spec := "fnSegBack", apart := false }
def FnSegBackSaid : Prop := fnSegBackRow.holds Try.pinned (OpenSpec.ofChange fnSegBackSpec)

/-- ITS FALSE NEIGHBOUR: 'it returns false'. Refute it at one input. -/
def fnSegBackWrong : ChangeSpec := { name := "fnSegBack", fn := fun _ => fun
  | [d] => { results := [.lit (.bool false)], args := [d] }
  | _ => none }
def FnSegBackWrongFalsely : Prop := fnSegBackRow.holds Try.pinned (OpenSpec.ofChange fnSegBackWrong)

/-- 'laws.FnTurnRound': WHATEVER THE INPUT: true; the input reads as it did. -/
def fnTurnRoundSpec : ChangeSpec := { name := "fnTurnRound", fn := fun _ => fun
  | [d] => { results := [.lit (.bool true)], args := [d] }
  | _ => none }
def fnTurnRoundRow : OpenClaim := { program := "yticcpiehhklcgaa", sum := "891477197c1340d4853f61d03d669f12c6dfc666547c26eb87800045552df297", func := "loop.example/mortiser/laws.FnTurnRound", spec := "fnTurnRound", apart := false }
def FnTurnRoundSaid : Prop := fnTurnRoundRow.holds Try.pinned (OpenSpec.ofChange fnTurnRoundSpec)

/-- ITS FALSE NEIGHBOUR: 'it returns false'. Refute it at one input. -/
def fnTurnRoundWrong : ChangeSpec := { name := "fnTurnRound", fn := fun _ => fun
  | [d] => { results := [.lit (.bool false)], args := [d] }
  | _ => none }
def FnTurnRoundWrongFalsely : Prop := fnTurnRoundRow.holds Try.pinned (OpenSpec.ofChange fnTurnRoundWrong)

/-- 'laws.FnTurnMirror': WHATEVER THE INPUT: true; the input reads as it did. -/
def fnTurnMirrorSpec : ChangeSpec := { name := "fnTurnMirror", fn := fun _ => fun
  | [d] => { results := [.lit (.bool true)], args := [d] }
  | _ => none }
def fnTurnMirrorRow : OpenClaim := { program := "yticcpiehhklcgaa", sum := "891477197c1340d4853f61d03d669f12c6dfc666547c26eb87800045552df297", func := "loop.example/mortiser/laws.FnTurnMirror", spec := "fnTurnMirror", apart := false }
def FnTurnMirrorSaid : Prop := fnTurnMirrorRow.holds Try.pinned (OpenSpec.ofChange fnTurnMirrorSpec)

/-- ITS FALSE NEIGHBOUR: 'it returns false'. Refute it at one input. -/
def fnTurnMirrorWrong : ChangeSpec := { name := "fnTurnMirror", fn := fun _ => fun
  | [d] => { results := [.lit (.bool false)], args := [d] }
  | _ => none }
def FnTurnMirrorWrongFalsely : Prop := fnTurnMirrorRow.holds Try.pinned (OpenSpec.ofChange fnTurnMirrorWrong)

/- THE SECOND FORM. 'bulk': how many values and letters a reading holds, each counted each time it is reached (what is shared counts as often as it is met; a slice's spare places count too). A statement '..UptoSaid' is the law's where the arguments, and the package variables that the reading takes, are together of bulk at most 1048576: NARROWER than '..Said'. Prove '..Said' where nothing that the law and all that it calls make is longer than what came in: it says more and counts as full. Else prove '..UptoSaid'. A law counts once. -/
mutual
def uptoBulk {H : Type} : DataW H → Nat
  | .lit (.string bytes) => bytes.length + 1
  | .lit _ => 1
  | .nil => 1
  | .ptr d => uptoBulk d + 1
  | .slice elems spare => uptoBulkAll elems + uptoBulkAll spare + 1
  | .agg parts => uptoBulkAll parts + 1
  | .iface _ d => uptoBulk d + 1
  | .map entries => uptoBulkEntries entries + 1
  | .held _ => 1
def uptoBulkAll {H : Type} : List (DataW H) → Nat
  | [] => 0
  | d :: r => uptoBulk d + uptoBulkAll r
def uptoBulkEntries {H : Type} : List (Lit × DataW H) → Nat
  | [] => 0
  | x :: r => uptoBulkEntry x + uptoBulkEntries r
def uptoBulkEntry {H : Type} : Lit × DataW H → Nat
  | (.string bytes, d) => bytes.length + uptoBulk d + 1
  | (_, d) => uptoBulk d + 1
 end
def uptoSmall : (H : Type) → List (DataW H) → Bool := fun _ ds => decide (uptoBulkAll ds ≤ 1048576)
def OpenSpec.upto (s : _root_.Go.ChangeSpec) : _root_.Go.OpenSpec := { _root_.Go.OpenSpec.ofChange s with cond := some uptoSmall }

/-- 'laws.FnExactConstants', WHERE WHAT IT READS IS OF BULK AT MOST 1048576: true; the input reads as it did. -/
def fnExactConstantsUptoRow : OpenClaim := { program := "yticcpiehhklcgaa", sum := "891477197c1340d4853f61d03d669f12c6dfc666547c26eb87800045552df297", func := "loop.example/mortiser/laws.FnExactConstants", spec := "fnExactConstants", apart := false, narrowed := true }
def FnExactConstantsUptoSaid : Prop := fnExactConstantsUptoRow.holds Try.pinned (OpenSpec.upto fnExactConstantsSpec)

/-- 'laws.FnExactPtOk', WHERE WHAT IT READS IS OF BULK AT MOST 1048576: true; the input reads as it did. -/
def fnExactPtOkUptoRow : OpenClaim := { program := "yticcpiehhklcgaa", sum := "891477197c1340d4853f61d03d669f12c6dfc666547c26eb87800045552df297", func := "loop.example/mortiser/laws.FnExactPtOk", spec := "fnExactPtOk", apart := false, narrowed := true }
def FnExactPtOkUptoSaid : Prop := fnExactPtOkUptoRow.holds Try.pinned (OpenSpec.upto fnExactPtOkSpec)

/-- 'laws.FnExactSegOk', WHERE WHAT IT READS IS OF BULK AT MOST 1048576: true; the input reads as it did. -/
def fnExactSegOkUptoRow : OpenClaim := { program := "yticcpiehhklcgaa", sum := "891477197c1340d4853f61d03d669f12c6dfc666547c26eb87800045552df297", func := "loop.example/mortiser/laws.FnExactSegOk", spec := "fnExactSegOk", apart := false, narrowed := true }
def FnExactSegOkUptoSaid : Prop := fnExactSegOkUptoRow.holds Try.pinned (OpenSpec.upto fnExactSegOkSpec)

/-- 'laws.FnExactFracOf', WHERE WHAT IT READS IS OF BULK AT MOST 1048576: true; the input reads as it did. -/
def fnExactFracOfUptoRow : OpenClaim := { program := "yticcpiehhklcgaa", sum := "891477197c1340d4853f61d03d669f12c6dfc666547c26eb87800045552df297", func := "loop.example/mortiser/laws.FnExactFracOf", spec := "fnExactFracOf", apart := false, narrowed := true }
def FnExactFracOfUptoSaid : Prop := fnExactFracOfUptoRow.holds Try.pinned (OpenSpec.upto fnExactFracOfSpec)

/-- 'laws.FnExactSegTurn', WHERE WHAT IT READS IS OF BULK AT MOST 1048576: true; the input reads as it did. -/
def fnExactSegTurnUptoRow : OpenClaim := { program := "yticcpiehhklcgaa", sum := "891477197c1340d4853f61d03d669f12c6dfc666547c26eb87800045552df297", func := "loop.example/mortiser/laws.FnExactSegTurn", spec := "fnExactSegTurn", apart := false, narrowed := true }
def FnExactSegTurnUptoSaid : Prop := fnExactSegTurnUptoRow.holds Try.pinned (OpenSpec.upto fnExactSegTurnSpec)

/-- 'laws.FnPtGrid', WHERE WHAT IT READS IS OF BULK AT MOST 1048576: true; the input reads as it did. -/
def fnPtGridUptoRow : OpenClaim := { program := "yticcpiehhklcgaa", sum := "891477197c1340d4853f61d03d669f12c6dfc666547c26eb87800045552df297", func := "loop.example/mortiser/laws.FnPtGrid", spec := "fnPtGrid", apart := false, narrowed := true }
def FnPtGridUptoSaid : Prop := fnPtGridUptoRow.holds Try.pinned (OpenSpec.upto fnPtGridSpec)

/-- 'laws.FnExactSegHas', WHERE WHAT IT READS IS OF BULK AT MOST 1048576: true; the input reads as it did. -/
def fnExactSegHasUptoRow : OpenClaim := { program := "yticcpiehhklcgaa", sum := "891477197c1340d4853f61d03d669f12c6dfc666547c26eb87800045552df297", func := "loop.example/mortiser/laws.FnExactSegHas", spec := "fnExactSegHas", apart := false, narrowed := true }
def FnExactSegHasUptoSaid : Prop := fnExactSegHasUptoRow.holds Try.pinned (OpenSpec.upto fnExactSegHasSpec)

/-- 'laws.FnSegBack', WHERE WHAT IT READS IS OF BULK AT MOST 1048576: true; the input reads as it did. -/
def fnSegBackUptoRow : OpenClaim := { program := "yticcpiehhklcgaa", sum := "891477197c1340d4853f61d03d669f12c6dfc666547c26eb87800045552df297", func := "loop.example/mortiser/laws.FnSegBack", spec := "fnSegBack", apart := false, narrowed := true }
def FnSegBackUptoSaid : Prop := fnSegBackUptoRow.holds Try.pinned (OpenSpec.upto fnSegBackSpec)

/-- 'laws.FnTurnRound', WHERE WHAT IT READS IS OF BULK AT MOST 1048576: true; the input reads as it did. -/
def fnTurnRoundUptoRow : OpenClaim := { program := "yticcpiehhklcgaa", sum := "891477197c1340d4853f61d03d669f12c6dfc666547c26eb87800045552df297", func := "loop.example/mortiser/laws.FnTurnRound", spec := "fnTurnRound", apart := false, narrowed := true }
def FnTurnRoundUptoSaid : Prop := fnTurnRoundUptoRow.holds Try.pinned (OpenSpec.upto fnTurnRoundSpec)

/-- 'laws.FnTurnMirror', WHERE WHAT IT READS IS OF BULK AT MOST 1048576: true; the input reads as it did. -/
def fnTurnMirrorUptoRow : OpenClaim := { program := "yticcpiehhklcgaa", sum := "891477197c1340d4853f61d03d669f12c6dfc666547c26eb87800045552df297", func := "loop.example/mortiser/laws.FnTurnMirror", spec := "fnTurnMirror", apart := false, narrowed := true }
def FnTurnMirrorUptoSaid : Prop := fnTurnMirrorUptoRow.holds Try.pinned (OpenSpec.upto fnTurnMirrorSpec)

end Rows
end Go.Proofs.Yticcpiehhklcgaa
