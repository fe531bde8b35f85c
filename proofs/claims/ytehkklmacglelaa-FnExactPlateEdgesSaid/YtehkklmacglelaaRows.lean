/-
  No cell of these rows narrows 'for every input' (looked for: loops, veiled, ifaces, maps, wideKeys, modest, calm, conditions, laid).
  DERIVED. THE GIVEN ROWS OF THIS SEAT. 10 by the template 'for every input the law returns true; each argument reads behind the call as it read before'; 0 by the template 'total and deterministic' (their statements: YtehkklmacglelaaTotals.lean).
  GIVEN WITH THE SEED: the statements are not yours to turn. If you find one false, say at which input.
  Laid BY PROGRAM, IN A SANDBOX (cutbox-rows.mjs): the forced cells as the released guide's own fill.sh prints them over the translation 6817ce1633b043f2… (all of the seat's roots in one cut). By AI agents, Wed Nov 11 2026. No macro, syntax, notation, axiom, sorry.
-/
import Derived.Test.YtehkklmacglelaaChecked
import GoSem.Claim
import GoSem.ClaimJoined
import GoSem.ClaimMapViews
import Derived.JoinedTies
import Derived.KernelRfl
namespace Go.Proofs.Ytehkklmacglelaa
/- THE CELL 'sum', in the pinned program and in every row, IS THE sha256 OF THE DUMP (.gsa) THAT YtehkklmacglelaaProg.lean LOADS. Nothing in Lean hashes anything: it is a label: what it is worth is what the hold of that sum in a sandbox is worth. -/
noncomputable def Try.pinned : Pinned := { name := "ytehkklmacglelaa", sum := "6817ce1633b043f2cd5f0a14432fff070c99bac29acb2571f58188d270432491", checked := Try.checked }
namespace Rows
def none {H : Type} : Left H := { results := [], args := [] }

/-- 'laws.FnLoopStay': WHATEVER THE INPUT: true; the input reads as it did. -/
def fnLoopStaySpec : ChangeSpec := { name := "fnLoopStay", fn := fun _ => fun
  | [d1, d2] => { results := [.lit (.bool true)], args := [d1, d2] }
  | _ => none }
def fnLoopStayRow : OpenClaim := { program := "ytehkklmacglelaa", sum := "6817ce1633b043f2cd5f0a14432fff070c99bac29acb2571f58188d270432491", func := "loop.example/mortiser/laws.FnLoopStay", spec := "fnLoopStay", unfollowed := true, recurses := true, apart := false }
def FnLoopStaySaid : Prop := fnLoopStayRow.holds Try.pinned (OpenSpec.ofChange fnLoopStaySpec)

/-- ITS FALSE NEIGHBOUR: 'it returns false'. Refute it at one input. -/
def fnLoopStayWrong : ChangeSpec := { name := "fnLoopStay", fn := fun _ => fun
  | [d1, d2] => { results := [.lit (.bool false)], args := [d1, d2] }
  | _ => none }
def FnLoopStayWrongFalsely : Prop := fnLoopStayRow.holds Try.pinned (OpenSpec.ofChange fnLoopStayWrong)

/-- 'laws.FnLoopInOn': WHATEVER THE INPUT: true; the input reads as it did. -/
def fnLoopInOnSpec : ChangeSpec := { name := "fnLoopInOn", fn := fun _ => fun
  | [d1, d2] => { results := [.lit (.bool true)], args := [d1, d2] }
  | _ => none }
def fnLoopInOnRow : OpenClaim := { program := "ytehkklmacglelaa", sum := "6817ce1633b043f2cd5f0a14432fff070c99bac29acb2571f58188d270432491", func := "loop.example/mortiser/laws.FnLoopInOn", spec := "fnLoopInOn", unfollowed := true, recurses := true, apart := false }
def FnLoopInOnSaid : Prop := fnLoopInOnRow.holds Try.pinned (OpenSpec.ofChange fnLoopInOnSpec)

/-- ITS FALSE NEIGHBOUR: 'it returns false'. Refute it at one input. -/
def fnLoopInOnWrong : ChangeSpec := { name := "fnLoopInOn", fn := fun _ => fun
  | [d1, d2] => { results := [.lit (.bool false)], args := [d1, d2] }
  | _ => none }
def FnLoopInOnWrongFalsely : Prop := fnLoopInOnRow.holds Try.pinned (OpenSpec.ofChange fnLoopInOnWrong)

/-- 'laws.FnExactPlateOk': WHATEVER THE INPUT: true; the input reads as it did. -/
def fnExactPlateOkSpec : ChangeSpec := { name := "fnExactPlateOk", fn := fun _ => fun
  | [d] => { results := [.lit (.bool true)], args := [d] }
  | _ => none }
def fnExactPlateOkRow : OpenClaim := { program := "ytehkklmacglelaa", sum := "6817ce1633b043f2cd5f0a14432fff070c99bac29acb2571f58188d270432491", func := "loop.example/mortiser/laws.FnExactPlateOk", spec := "fnExactPlateOk", unfollowed := true, recurses := true, apart := false }
def FnExactPlateOkSaid : Prop := fnExactPlateOkRow.holds Try.pinned (OpenSpec.ofChange fnExactPlateOkSpec)

/-- ITS FALSE NEIGHBOUR: 'it returns false'. Refute it at one input. -/
def fnExactPlateOkWrong : ChangeSpec := { name := "fnExactPlateOk", fn := fun _ => fun
  | [d] => { results := [.lit (.bool false)], args := [d] }
  | _ => none }
def FnExactPlateOkWrongFalsely : Prop := fnExactPlateOkRow.holds Try.pinned (OpenSpec.ofChange fnExactPlateOkWrong)

/-- 'laws.FnPlateHoles': WHATEVER THE INPUT: true; the input reads as it did. -/
def fnPlateHolesSpec : ChangeSpec := { name := "fnPlateHoles", fn := fun _ => fun
  | [d1, d2] => { results := [.lit (.bool true)], args := [d1, d2] }
  | _ => none }
def fnPlateHolesRow : OpenClaim := { program := "ytehkklmacglelaa", sum := "6817ce1633b043f2cd5f0a14432fff070c99bac29acb2571f58188d270432491", func := "loop.example/mortiser/laws.FnPlateHoles", spec := "fnPlateHoles", unfollowed := true, recurses := true, apart := false }
def FnPlateHolesSaid : Prop := fnPlateHolesRow.holds Try.pinned (OpenSpec.ofChange fnPlateHolesSpec)

/-- ITS FALSE NEIGHBOUR: 'it returns false'. Refute it at one input. -/
def fnPlateHolesWrong : ChangeSpec := { name := "fnPlateHoles", fn := fun _ => fun
  | [d1, d2] => { results := [.lit (.bool false)], args := [d1, d2] }
  | _ => none }
def FnPlateHolesWrongFalsely : Prop := fnPlateHolesRow.holds Try.pinned (OpenSpec.ofChange fnPlateHolesWrong)

/-- 'laws.FnPlateEdges': WHATEVER THE INPUT: true; the input reads as it did. -/
def fnPlateEdgesSpec : ChangeSpec := { name := "fnPlateEdges", fn := fun _ => fun
  | [d] => { results := [.lit (.bool true)], args := [d] }
  | _ => none }
def fnPlateEdgesRow : OpenClaim := { program := "ytehkklmacglelaa", sum := "6817ce1633b043f2cd5f0a14432fff070c99bac29acb2571f58188d270432491", func := "loop.example/mortiser/laws.FnPlateEdges", spec := "fnPlateEdges", unfollowed := true, recurses := true, apart := false }
def FnPlateEdgesSaid : Prop := fnPlateEdgesRow.holds Try.pinned (OpenSpec.ofChange fnPlateEdgesSpec)

/-- ITS FALSE NEIGHBOUR: 'it returns false'. Refute it at one input. -/
def fnPlateEdgesWrong : ChangeSpec := { name := "fnPlateEdges", fn := fun _ => fun
  | [d] => { results := [.lit (.bool false)], args := [d] }
  | _ => none }
def FnPlateEdgesWrongFalsely : Prop := fnPlateEdgesRow.holds Try.pinned (OpenSpec.ofChange fnPlateEdgesWrong)

/-- 'laws.FnExactPlateIn': WHATEVER THE INPUT: true; the input reads as it did. -/
def fnExactPlateInSpec : ChangeSpec := { name := "fnExactPlateIn", fn := fun _ => fun
  | [d1, d2] => { results := [.lit (.bool true)], args := [d1, d2] }
  | _ => none }
def fnExactPlateInRow : OpenClaim := { program := "ytehkklmacglelaa", sum := "6817ce1633b043f2cd5f0a14432fff070c99bac29acb2571f58188d270432491", func := "loop.example/mortiser/laws.FnExactPlateIn", spec := "fnExactPlateIn", unfollowed := true, recurses := true, apart := false }
def FnExactPlateInSaid : Prop := fnExactPlateInRow.holds Try.pinned (OpenSpec.ofChange fnExactPlateInSpec)

/-- ITS FALSE NEIGHBOUR: 'it returns false'. Refute it at one input. -/
def fnExactPlateInWrong : ChangeSpec := { name := "fnExactPlateIn", fn := fun _ => fun
  | [d1, d2] => { results := [.lit (.bool false)], args := [d1, d2] }
  | _ => none }
def FnExactPlateInWrongFalsely : Prop := fnExactPlateInRow.holds Try.pinned (OpenSpec.ofChange fnExactPlateInWrong)

/-- 'laws.FnPlateFill': WHATEVER THE INPUT: true; the input reads as it did. -/
def fnPlateFillSpec : ChangeSpec := { name := "fnPlateFill", fn := fun _ => fun
  | [d] => { results := [.lit (.bool true)], args := [d] }
  | _ => none }
def fnPlateFillRow : OpenClaim := { program := "ytehkklmacglelaa", sum := "6817ce1633b043f2cd5f0a14432fff070c99bac29acb2571f58188d270432491", func := "loop.example/mortiser/laws.FnPlateFill", spec := "fnPlateFill", unfollowed := true, recurses := true, apart := false }
def FnPlateFillSaid : Prop := fnPlateFillRow.holds Try.pinned (OpenSpec.ofChange fnPlateFillSpec)

/-- ITS FALSE NEIGHBOUR: 'it returns false'. Refute it at one input. -/
def fnPlateFillWrong : ChangeSpec := { name := "fnPlateFill", fn := fun _ => fun
  | [d] => { results := [.lit (.bool false)], args := [d] }
  | _ => none }
def FnPlateFillWrongFalsely : Prop := fnPlateFillRow.holds Try.pinned (OpenSpec.ofChange fnPlateFillWrong)

/-- 'laws.FnPlateOver': WHATEVER THE INPUT: true; the input reads as it did. -/
def fnPlateOverSpec : ChangeSpec := { name := "fnPlateOver", fn := fun _ => fun
  | [d] => { results := [.lit (.bool true)], args := [d] }
  | _ => none }
def fnPlateOverRow : OpenClaim := { program := "ytehkklmacglelaa", sum := "6817ce1633b043f2cd5f0a14432fff070c99bac29acb2571f58188d270432491", func := "loop.example/mortiser/laws.FnPlateOver", spec := "fnPlateOver", unfollowed := true, recurses := true, apart := false }
def FnPlateOverSaid : Prop := fnPlateOverRow.holds Try.pinned (OpenSpec.ofChange fnPlateOverSpec)

/-- ITS FALSE NEIGHBOUR: 'it returns false'. Refute it at one input. -/
def fnPlateOverWrong : ChangeSpec := { name := "fnPlateOver", fn := fun _ => fun
  | [d] => { results := [.lit (.bool false)], args := [d] }
  | _ => none }
def FnPlateOverWrongFalsely : Prop := fnPlateOverRow.holds Try.pinned (OpenSpec.ofChange fnPlateOverWrong)

/-- 'laws.FnPlateIn': WHATEVER THE INPUT: true; the input reads as it did. -/
def fnPlateInSpec : ChangeSpec := { name := "fnPlateIn", fn := fun _ => fun
  | [d] => { results := [.lit (.bool true)], args := [d] }
  | _ => none }
def fnPlateInRow : OpenClaim := { program := "ytehkklmacglelaa", sum := "6817ce1633b043f2cd5f0a14432fff070c99bac29acb2571f58188d270432491", func := "loop.example/mortiser/laws.FnPlateIn", spec := "fnPlateIn", unfollowed := true, recurses := true, apart := false }
def FnPlateInSaid : Prop := fnPlateInRow.holds Try.pinned (OpenSpec.ofChange fnPlateInSpec)

/-- ITS FALSE NEIGHBOUR: 'it returns false'. Refute it at one input. -/
def fnPlateInWrong : ChangeSpec := { name := "fnPlateIn", fn := fun _ => fun
  | [d] => { results := [.lit (.bool false)], args := [d] }
  | _ => none }
def FnPlateInWrongFalsely : Prop := fnPlateInRow.holds Try.pinned (OpenSpec.ofChange fnPlateInWrong)

/-- 'laws.FnExactPlateEdges': WHATEVER THE INPUT: true; the input reads as it did. -/
def fnExactPlateEdgesSpec : ChangeSpec := { name := "fnExactPlateEdges", fn := fun _ => fun
  | [d] => { results := [.lit (.bool true)], args := [d] }
  | _ => none }
def fnExactPlateEdgesRow : OpenClaim := { program := "ytehkklmacglelaa", sum := "6817ce1633b043f2cd5f0a14432fff070c99bac29acb2571f58188d270432491", func := "loop.example/mortiser/laws.FnExactPlateEdges", spec := "fnExactPlateEdges", unfollowed := true, recurses := true, apart := false }
def FnExactPlateEdgesSaid : Prop := fnExactPlateEdgesRow.holds Try.pinned (OpenSpec.ofChange fnExactPlateEdgesSpec)

/-- ITS FALSE NEIGHBOUR: 'it returns false'. Refute it at one input. -/
def fnExactPlateEdgesWrong : ChangeSpec := { name := "fnExactPlateEdges", fn := fun _ => fun
  | [d] => { results := [.lit (.bool false)], args := [d] }
  | _ => none }
def FnExactPlateEdgesWrongFalsely : Prop := fnExactPlateEdgesRow.holds Try.pinned (OpenSpec.ofChange fnExactPlateEdgesWrong)

/- THE SECOND FORM. 'bulk': how many values and letters a reading holds, each counted each time it is reached (what is shared counts as often as it is met; a slice's spare places count too). A statement '..UptoSaid' is the law's where the arguments, and the package variables that the reading takes, are together of bulk at most 1048576: NARROWER than '..Said'. Prove '..Said' where nothing that the law and all that it calls make is longer than what came in: it says more and counts as full. Else prove '..UptoSaid'. A law counts once. -/
mutual
def uptoBulk {H : Type} : DataW H → Nat
  | .lit (.string bytes) => bytes.length + 1
  | .lit _ => 1
  | .nil => 1
  | .ptr d => uptoBulk d + 1
  | .slice elems spare => uptoBulkAll elems + uptoBulkAll spare + 1
  | .agg parts => uptoBulkAll parts + 1
  | .iface _ d => uptoBulk d + 1
  | .map entries => uptoBulkEntries entries + 1
  | .held _ => 1
def uptoBulkAll {H : Type} : List (DataW H) → Nat
  | [] => 0
  | d :: r => uptoBulk d + uptoBulkAll r
def uptoBulkEntries {H : Type} : List (Lit × DataW H) → Nat
  | [] => 0
  | x :: r => uptoBulkEntry x + uptoBulkEntries r
def uptoBulkEntry {H : Type} : Lit × DataW H → Nat
  | (.string bytes, d) => bytes.length + uptoBulk d + 1
  | (_, d) => uptoBulk d + 1
 end
def uptoSmall : (H : Type) → List (DataW H) → Bool := fun _ ds => decide (uptoBulkAll ds ≤ 1048576)
def OpenSpec.upto (s : _root_.Go.ChangeSpec) : _root_.Go.OpenSpec := { _root_.Go.OpenSpec.ofChange s with cond := some uptoSmall }

/-- 'laws.FnLoopStay', WHERE WHAT IT READS IS OF BULK AT MOST 1048576: true; the input reads as it did. -/
def fnLoopStayUptoRow : OpenClaim := { program := "ytehkklmacglelaa", sum := "6817ce1633b043f2cd5f0a14432fff070c99bac29acb2571f58188d270432491", func := "loop.example/mortiser/laws.FnLoopStay", spec := "fnLoopStay", unfollowed := true, recurses := true, apart := false, narrowed := true }
def FnLoopStayUptoSaid : Prop := fnLoopStayUptoRow.holds Try.pinned (OpenSpec.upto fnLoopStaySpec)

/-- 'laws.FnLoopInOn', WHERE WHAT IT READS IS OF BULK AT MOST 1048576: true; the input reads as it did. -/
def fnLoopInOnUptoRow : OpenClaim := { program := "ytehkklmacglelaa", sum := "6817ce1633b043f2cd5f0a14432fff070c99bac29acb2571f58188d270432491", func := "loop.example/mortiser/laws.FnLoopInOn", spec := "fnLoopInOn", unfollowed := true, recurses := true, apart := false, narrowed := true }
def FnLoopInOnUptoSaid : Prop := fnLoopInOnUptoRow.holds Try.pinned (OpenSpec.upto fnLoopInOnSpec)

/-- 'laws.FnExactPlateOk', WHERE WHAT IT READS IS OF BULK AT MOST 1048576: true; the input reads as it did. -/
def fnExactPlateOkUptoRow : OpenClaim := { program := "ytehkklmacglelaa", sum := "6817ce1633b043f2cd5f0a14432fff070c99bac29acb2571f58188d270432491", func := "loop.example/mortiser/laws.FnExactPlateOk", spec := "fnExactPlateOk", unfollowed := true, recurses := true, apart := false, narrowed := true }
def FnExactPlateOkUptoSaid : Prop := fnExactPlateOkUptoRow.holds Try.pinned (OpenSpec.upto fnExactPlateOkSpec)

/-- 'laws.FnPlateHoles', WHERE WHAT IT READS IS OF BULK AT MOST 1048576: true; the input reads as it did. -/
def fnPlateHolesUptoRow : OpenClaim := { program := "ytehkklmacglelaa", sum := "6817ce1633b043f2cd5f0a14432fff070c99bac29acb2571f58188d270432491", func := "loop.example/mortiser/laws.FnPlateHoles", spec := "fnPlateHoles", unfollowed := true, recurses := true, apart := false, narrowed := true }
def FnPlateHolesUptoSaid : Prop := fnPlateHolesUptoRow.holds Try.pinned (OpenSpec.upto fnPlateHolesSpec)

/-- 'laws.FnPlateEdges', WHERE WHAT IT READS IS OF BULK AT MOST 1048576: true; the input reads as it did. -/
def fnPlateEdgesUptoRow : OpenClaim := { program := "ytehkklmacglelaa", sum := "6817ce1633b043f2cd5f0a14432fff070c99bac29acb2571f58188d270432491", func := "loop.example/mortiser/laws.FnPlateEdges", spec := "fnPlateEdges", unfollowed := true, recurses := true, apart := false, narrowed := true }
def FnPlateEdgesUptoSaid : Prop := fnPlateEdgesUptoRow.holds Try.pinned (OpenSpec.upto fnPlateEdgesSpec)

/-- 'laws.FnExactPlateIn', WHERE WHAT IT READS IS OF BULK AT MOST 1048576: true; the input reads as it did. -/
def fnExactPlateInUptoRow : OpenClaim := { program := "ytehkklmacglelaa", sum := "6817ce1633b043f2cd5f0a14432fff070c99bac29acb2571f58188d270432491", func := "loop.example/mortiser/laws.FnExactPlateIn", spec := "fnExactPlateIn", unfollowed := true, recurses := true, apart := false, narrowed := true }
def FnExactPlateInUptoSaid : Prop := fnExactPlateInUptoRow.holds Try.pinned (OpenSpec.upto fnExactPlateInSpec)

/-- 'laws.FnPlateFill', WHERE WHAT IT READS IS OF BULK AT MOST 1048576: true; the input reads as it did. -/
def fnPlateFillUptoRow : OpenClaim := { program := "ytehkklmacglelaa", sum := "6817ce1633b043f2cd5f0a14432fff070c99bac29acb2571f58188d270432491", func := "loop.example/mortiser/laws.FnPlateFill", spec := "fnPlateFill", unfollowed := true, recurses := true, apart := false, narrowed := true }
def FnPlateFillUptoSaid : Prop := fnPlateFillUptoRow.holds Try.pinned (OpenSpec.upto fnPlateFillSpec)

/-- 'laws.FnPlateOver', WHERE WHAT IT READS IS OF BULK AT MOST 1048576: true; the input reads as it did. -/
def fnPlateOverUptoRow : OpenClaim := { program := "ytehkklmacglelaa", sum := "6817ce1633b043f2cd5f0a14432fff070c99bac29acb2571f58188d270432491", func := "loop.example/mortiser/laws.FnPlateOver", spec := "fnPlateOver", unfollowed := true, recurses := true, apart := false, narrowed := true }
def FnPlateOverUptoSaid : Prop := fnPlateOverUptoRow.holds Try.pinned (OpenSpec.upto fnPlateOverSpec)

/-- 'laws.FnPlateIn', WHERE WHAT IT READS IS OF BULK AT MOST 1048576: true; the input reads as it did. -/
def fnPlateInUptoRow : OpenClaim := { program := "ytehkklmacglelaa", sum := "6817ce1633b043f2cd5f0a14432fff070c99bac29acb2571f58188d270432491", func := "loop.example/mortiser/laws.FnPlateIn", spec := "fnPlateIn", unfollowed := true, recurses := true, apart := false, narrowed := true }
def FnPlateInUptoSaid : Prop := fnPlateInUptoRow.holds Try.pinned (OpenSpec.upto fnPlateInSpec)

/-- 'laws.FnExactPlateEdges', WHERE WHAT IT READS IS OF BULK AT MOST 1048576: true; the input reads as it did. -/
def fnExactPlateEdgesUptoRow : OpenClaim := { program := "ytehkklmacglelaa", sum := "6817ce1633b043f2cd5f0a14432fff070c99bac29acb2571f58188d270432491", func := "loop.example/mortiser/laws.FnExactPlateEdges", spec := "fnExactPlateEdges", unfollowed := true, recurses := true, apart := false, narrowed := true }
def FnExactPlateEdgesUptoSaid : Prop := fnExactPlateEdgesUptoRow.holds Try.pinned (OpenSpec.upto fnExactPlateEdgesSpec)

end Rows
end Go.Proofs.Ytehkklmacglelaa
