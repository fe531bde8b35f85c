/-
  NARROWER THAN 'FOR EVERY INPUT', by the rows' own cells (each row's printed sentence says how): FnExactPlateText: laid · FnExactFracOk: ifaces, laid · FnLoopBack: laid · FnFracOf: ifaces, laid · FnLoopStrict: laid · FnExactFracText: ifaces, laid · FnFracText: ifaces, laid · FnExactLoopRead: laid · FnExactLoopText: laid.
  DERIVED. THE GIVEN ROWS OF THIS SEAT. 9 by the template 'for every input the law returns true; each argument reads behind the call as it read before'; 0 by the template 'total and deterministic' (their statements: YtddbahlofgkoaaaDoorTotals.lean).
  GIVEN WITH THE SEED: the statements are not yours to turn. If you find one false, say at which input.
  Laid BY PROGRAM, IN A SANDBOX (cutbox-rows.mjs): the forced cells as the released guide's own fill.sh prints them over the translation 56fe7d2787987516… (all of the seat's roots in one cut). By AI agents, Wed Nov 11 2026. No macro, syntax, notation, axiom, sorry.
-/
import Derived.Test.YtddbahlofgkoaaaDoorChecked
import GoSem.PinnedTables
import GoSem.Claim
import GoSem.ClaimJoined
import GoSem.ClaimMapViews
import Derived.JoinedTies
import Derived.KernelRfl
namespace Go.Proofs.YtddbahlofgkoaaaDoor
/- THE CELL 'sum', in the pinned program and in every row, IS THE sha256 OF THE DUMP (.gsa) THAT YtddbahlofgkoaaaDoorProg.lean LOADS. Nothing in Lean hashes anything: it is a label: what it is worth is what the hold of that sum in a sandbox is worth. -/
noncomputable def Tryd.pinned : Pinned := { name := "ytddbahlofgkoaaadoor", sum := "56fe7d27879875162e3d2432f3932aca750cf6aeb85b2ec37e4c53e0c3924f05", checked := Tryd.checked }
namespace Rows
def none {H : Type} : Left H := { results := [], args := [] }

/- WHAT THE LISTED PACKAGE-LEVEL VARIABLES READ AS WHEN THE CALL BEGINS. Each datum BY PROGRAM (the guide's laid-datum.mjs) off the statement by which the dump's own 'gosem.cut.vars' lays the variable. In a bare row this is a premise. The card (YtddbahlofgkoaaaDoorCards.lean) ties it to the program's text. -/
def laid_math_bits_deBruijn32tab {H : Type} : DataW H := .agg [.lit (.int .u8 0), .lit (.int .u8 1), .lit (.int .u8 28), .lit (.int .u8 2), .lit (.int .u8 29), .lit (.int .u8 14), .lit (.int .u8 24), .lit (.int .u8 3), .lit (.int .u8 30), .lit (.int .u8 22), .lit (.int .u8 20), .lit (.int .u8 15), .lit (.int .u8 25), .lit (.int .u8 17), .lit (.int .u8 4), .lit (.int .u8 8), .lit (.int .u8 31), .lit (.int .u8 27), .lit (.int .u8 13), .lit (.int .u8 23), .lit (.int .u8 21), .lit (.int .u8 19), .lit (.int .u8 16), .lit (.int .u8 7), .lit (.int .u8 26), .lit (.int .u8 12), .lit (.int .u8 18), .lit (.int .u8 6), .lit (.int .u8 11), .lit (.int .u8 5), .lit (.int .u8 10), .lit (.int .u8 9)]
def laid_math_bits_deBruijn64tab {H : Type} : DataW H := .agg [.lit (.int .u8 0), .lit (.int .u8 1), .lit (.int .u8 56), .lit (.int .u8 2), .lit (.int .u8 57), .lit (.int .u8 49), .lit (.int .u8 28), .lit (.int .u8 3), .lit (.int .u8 61), .lit (.int .u8 58), .lit (.int .u8 42), .lit (.int .u8 50), .lit (.int .u8 38), .lit (.int .u8 29), .lit (.int .u8 17), .lit (.int .u8 4), .lit (.int .u8 62), .lit (.int .u8 47), .lit (.int .u8 59), .lit (.int .u8 36), .lit (.int .u8 45), .lit (.int .u8 43), .lit (.int .u8 51), .lit (.int .u8 22), .lit (.int .u8 53), .lit (.int .u8 39), .lit (.int .u8 33), .lit (.int .u8 30), .lit (.int .u8 24), .lit (.int .u8 18), .lit (.int .u8 12), .lit (.int .u8 5), .lit (.int .u8 63), .lit (.int .u8 55), .lit (.int .u8 48), .lit (.int .u8 27), .lit (.int .u8 60), .lit (.int .u8 41), .lit (.int .u8 37), .lit (.int .u8 16), .lit (.int .u8 46), .lit (.int .u8 35), .lit (.int .u8 44), .lit (.int .u8 21), .lit (.int .u8 52), .lit (.int .u8 32), .lit (.int .u8 23), .lit (.int .u8 11), .lit (.int .u8 54), .lit (.int .u8 26), .lit (.int .u8 40), .lit (.int .u8 15), .lit (.int .u8 34), .lit (.int .u8 20), .lit (.int .u8 31), .lit (.int .u8 10), .lit (.int .u8 25), .lit (.int .u8 14), .lit (.int .u8 19), .lit (.int .u8 9), .lit (.int .u8 13), .lit (.int .u8 8), .lit (.int .u8 7), .lit (.int .u8 6)]
def laid_internal_strconv_uint64pow10 {H : Type} : DataW H := .agg [.lit (.int .u64 1), .lit (.int .u64 10), .lit (.int .u64 100), .lit (.int .u64 1000), .lit (.int .u64 10000), .lit (.int .u64 100000), .lit (.int .u64 1000000), .lit (.int .u64 10000000), .lit (.int .u64 100000000), .lit (.int .u64 1000000000), .lit (.int .u64 10000000000), .lit (.int .u64 100000000000), .lit (.int .u64 1000000000000), .lit (.int .u64 10000000000000), .lit (.int .u64 100000000000000), .lit (.int .u64 1000000000000000), .lit (.int .u64 10000000000000000), .lit (.int .u64 100000000000000000), .lit (.int .u64 1000000000000000000), .lit (.int .u64 10000000000000000000)]
def laid_loop_example_mortiser_impl_errNoFrac {H : Type} : DataW H := .iface "*errors.errorString" (.ptr (.agg [.lit (.string [110, 111, 32, 102, 114, 97, 99, 116, 105, 111, 110])]))
def laid_unicode_utf8_acceptRanges {H : Type} : DataW H := .agg [.agg [.lit (.int .u8 128), .lit (.int .u8 191)], .agg [.lit (.int .u8 160), .lit (.int .u8 191)], .agg [.lit (.int .u8 128), .lit (.int .u8 159)], .agg [.lit (.int .u8 144), .lit (.int .u8 191)], .agg [.lit (.int .u8 128), .lit (.int .u8 143)], .agg [.lit (.int .u8 0), .lit (.int .u8 0)], .agg [.lit (.int .u8 0), .lit (.int .u8 0)], .agg [.lit (.int .u8 0), .lit (.int .u8 0)], .agg [.lit (.int .u8 0), .lit (.int .u8 0)], .agg [.lit (.int .u8 0), .lit (.int .u8 0)], .agg [.lit (.int .u8 0), .lit (.int .u8 0)], .agg [.lit (.int .u8 0), .lit (.int .u8 0)], .agg [.lit (.int .u8 0), .lit (.int .u8 0)], .agg [.lit (.int .u8 0), .lit (.int .u8 0)], .agg [.lit (.int .u8 0), .lit (.int .u8 0)], .agg [.lit (.int .u8 0), .lit (.int .u8 0)]]
/-- One of Go's own tables, pinned by name: the form's constant. -/
def laid_unicode_utf8_first : DataW Unit := Go.Pinned.utf8First

/-- 'laws.FnExactPlateText': WHATEVER THE INPUT: true; the input reads as it did. -/
def fnExactPlateTextSpec : ChangeSpec := { name := "fnExactPlateText", fn := fun _ => fun
  | [d] => { results := [.lit (.bool true)], args := [d] }
  | _ => none }
def fnExactPlateTextRow : OpenClaim := { program := "ytddbahlofgkoaaadoor", sum := "56fe7d27879875162e3d2432f3932aca750cf6aeb85b2ec37e4c53e0c3924f05", func := "loop.example/mortiser/laws.FnExactPlateText", spec := "fnExactPlateText", inPlace := ["internal/abi.NoEscape", "internal/bytealg.MakeNoZero"], unfollowed := true, recurses := true, named := ["internal/strconv.uint64pow10", "math/bits.deBruijn32tab", "math/bits.deBruijn64tab"], apart := false, laid := [("math/bits.deBruijn32tab", laid_math_bits_deBruijn32tab), ("math/bits.deBruijn64tab", laid_math_bits_deBruijn64tab), ("internal/strconv.uint64pow10", laid_internal_strconv_uint64pow10)] }
def FnExactPlateTextSaid : Prop := fnExactPlateTextRow.holds Tryd.pinned (OpenSpec.ofChange fnExactPlateTextSpec)

/-- ITS FALSE NEIGHBOUR: 'it returns false'. Refute it at one input. -/
def fnExactPlateTextWrong : ChangeSpec := { name := "fnExactPlateText", fn := fun _ => fun
  | [d] => { results := [.lit (.bool false)], args := [d] }
  | _ => none }
def FnExactPlateTextWrongFalsely : Prop := fnExactPlateTextRow.holds Tryd.pinned (OpenSpec.ofChange fnExactPlateTextWrong)

/-- 'laws.FnExactFracOk': WHATEVER THE INPUT: true; the input reads as it did. -/
def fnExactFracOkSpec : ChangeSpec := { name := "fnExactFracOk", vars := ["loop.example/mortiser/impl.errNoFrac"], fn := fun _ => fun
  | [d, g1] => { results := [.lit (.bool true)], args := [d], vars := [g1] }
  | _ => none }
def fnExactFracOkRow : OpenClaim := { program := "ytddbahlofgkoaaadoor", sum := "56fe7d27879875162e3d2432f3932aca750cf6aeb85b2ec37e4c53e0c3924f05", func := "loop.example/mortiser/laws.FnExactFracOk", spec := "fnExactFracOk", inPlace := ["internal/reflectlite.TypeOf"], unfollowed := true, recurses := true, named := ["loop.example/mortiser/impl.errNoFrac"], ifaces := true, apart := false, laid := [("loop.example/mortiser/impl.errNoFrac", laid_loop_example_mortiser_impl_errNoFrac)] }
def FnExactFracOkSaid : Prop := fnExactFracOkRow.holds Tryd.pinned (OpenSpec.ofChange fnExactFracOkSpec)

/-- ITS FALSE NEIGHBOUR: 'it returns false'. Refute it at one input. -/
def fnExactFracOkWrong : ChangeSpec := { name := "fnExactFracOk", vars := ["loop.example/mortiser/impl.errNoFrac"], fn := fun _ => fun
  | [d, g1] => { results := [.lit (.bool false)], args := [d], vars := [g1] }
  | _ => none }
def FnExactFracOkWrongFalsely : Prop := fnExactFracOkRow.holds Tryd.pinned (OpenSpec.ofChange fnExactFracOkWrong)

/-- 'laws.FnLoopBack': WHATEVER THE INPUT: true; the input reads as it did. -/
def fnLoopBackSpec : ChangeSpec := { name := "fnLoopBack", fn := fun _ => fun
  | [d] => { results := [.lit (.bool true)], args := [d] }
  | _ => none }
def fnLoopBackRow : OpenClaim := { program := "ytddbahlofgkoaaadoor", sum := "56fe7d27879875162e3d2432f3932aca750cf6aeb85b2ec37e4c53e0c3924f05", func := "loop.example/mortiser/laws.FnLoopBack", spec := "fnLoopBack", inPlace := ["internal/abi.NoEscape", "internal/bytealg.MakeNoZero", "internal/bytealg.CountString", "internal/bytealg.IndexByteString", "internal/bytealg.IndexString"], unfollowed := true, recurses := true, named := ["internal/strconv.uint64pow10", "math/bits.deBruijn32tab", "math/bits.deBruijn64tab", "unicode/utf8.first", "unicode/utf8.acceptRanges", "internal/bytealg.MaxLen"], apart := false, laid := [("math/bits.deBruijn32tab", laid_math_bits_deBruijn32tab), ("math/bits.deBruijn64tab", laid_math_bits_deBruijn64tab), ("internal/strconv.uint64pow10", laid_internal_strconv_uint64pow10), ("unicode/utf8.acceptRanges", laid_unicode_utf8_acceptRanges), ("unicode/utf8.first", laid_unicode_utf8_first)] }
def FnLoopBackSaid : Prop := fnLoopBackRow.holds Tryd.pinned (OpenSpec.ofChange fnLoopBackSpec)

/-- ITS FALSE NEIGHBOUR: 'it returns false'. Refute it at one input. -/
def fnLoopBackWrong : ChangeSpec := { name := "fnLoopBack", fn := fun _ => fun
  | [d] => { results := [.lit (.bool false)], args := [d] }
  | _ => none }
def FnLoopBackWrongFalsely : Prop := fnLoopBackRow.holds Tryd.pinned (OpenSpec.ofChange fnLoopBackWrong)

/-- 'laws.FnFracOf': WHATEVER THE INPUT: true; the input reads as it did. -/
def fnFracOfSpec : ChangeSpec := { name := "fnFracOf", vars := ["loop.example/mortiser/impl.errNoFrac"], fn := fun _ => fun
  | [d1, d2, g1] => { results := [.lit (.bool true)], args := [d1, d2], vars := [g1] }
  | _ => none }
def fnFracOfRow : OpenClaim := { program := "ytddbahlofgkoaaadoor", sum := "56fe7d27879875162e3d2432f3932aca750cf6aeb85b2ec37e4c53e0c3924f05", func := "loop.example/mortiser/laws.FnFracOf", spec := "fnFracOf", inPlace := ["internal/reflectlite.TypeOf"], unfollowed := true, recurses := true, named := ["loop.example/mortiser/impl.errNoFrac"], ifaces := true, apart := false, laid := [("loop.example/mortiser/impl.errNoFrac", laid_loop_example_mortiser_impl_errNoFrac)] }
def FnFracOfSaid : Prop := fnFracOfRow.holds Tryd.pinned (OpenSpec.ofChange fnFracOfSpec)

/-- ITS FALSE NEIGHBOUR: 'it returns false'. Refute it at one input. -/
def fnFracOfWrong : ChangeSpec := { name := "fnFracOf", vars := ["loop.example/mortiser/impl.errNoFrac"], fn := fun _ => fun
  | [d1, d2, g1] => { results := [.lit (.bool false)], args := [d1, d2], vars := [g1] }
  | _ => none }
def FnFracOfWrongFalsely : Prop := fnFracOfRow.holds Tryd.pinned (OpenSpec.ofChange fnFracOfWrong)

/-- 'laws.FnLoopStrict': WHATEVER THE INPUT: true; the input reads as it did. -/
def fnLoopStrictSpec : ChangeSpec := { name := "fnLoopStrict", fn := fun _ => fun
  | [d] => { results := [.lit (.bool true)], args := [d] }
  | _ => none }
def fnLoopStrictRow : OpenClaim := { program := "ytddbahlofgkoaaadoor", sum := "56fe7d27879875162e3d2432f3932aca750cf6aeb85b2ec37e4c53e0c3924f05", func := "loop.example/mortiser/laws.FnLoopStrict", spec := "fnLoopStrict", inPlace := ["internal/bytealg.CountString", "internal/bytealg.IndexByteString", "internal/bytealg.IndexString", "internal/abi.NoEscape", "internal/bytealg.MakeNoZero"], unfollowed := true, recurses := true, named := ["unicode/utf8.first", "unicode/utf8.acceptRanges", "internal/bytealg.MaxLen", "internal/strconv.uint64pow10", "math/bits.deBruijn32tab", "math/bits.deBruijn64tab"], apart := false, laid := [("math/bits.deBruijn32tab", laid_math_bits_deBruijn32tab), ("math/bits.deBruijn64tab", laid_math_bits_deBruijn64tab), ("internal/strconv.uint64pow10", laid_internal_strconv_uint64pow10), ("unicode/utf8.acceptRanges", laid_unicode_utf8_acceptRanges), ("unicode/utf8.first", laid_unicode_utf8_first)] }
def FnLoopStrictSaid : Prop := fnLoopStrictRow.holds Tryd.pinned (OpenSpec.ofChange fnLoopStrictSpec)

/-- ITS FALSE NEIGHBOUR: 'it returns false'. Refute it at one input. -/
def fnLoopStrictWrong : ChangeSpec := { name := "fnLoopStrict", fn := fun _ => fun
  | [d] => { results := [.lit (.bool false)], args := [d] }
  | _ => none }
def FnLoopStrictWrongFalsely : Prop := fnLoopStrictRow.holds Tryd.pinned (OpenSpec.ofChange fnLoopStrictWrong)

/-- 'laws.FnExactFracText': WHATEVER THE INPUT: true; the input reads as it did. -/
def fnExactFracTextSpec : ChangeSpec := { name := "fnExactFracText", vars := ["loop.example/mortiser/impl.errNoFrac"], fn := fun _ => fun
  | [d, g1] => { results := [.lit (.bool true)], args := [d], vars := [g1] }
  | _ => none }
def fnExactFracTextRow : OpenClaim := { program := "ytddbahlofgkoaaadoor", sum := "56fe7d27879875162e3d2432f3932aca750cf6aeb85b2ec37e4c53e0c3924f05", func := "loop.example/mortiser/laws.FnExactFracText", spec := "fnExactFracText", inPlace := ["internal/reflectlite.TypeOf"], unfollowed := true, recurses := true, named := ["loop.example/mortiser/impl.errNoFrac"], ifaces := true, apart := false, laid := [("loop.example/mortiser/impl.errNoFrac", laid_loop_example_mortiser_impl_errNoFrac)] }
def FnExactFracTextSaid : Prop := fnExactFracTextRow.holds Tryd.pinned (OpenSpec.ofChange fnExactFracTextSpec)

/-- ITS FALSE NEIGHBOUR: 'it returns false'. Refute it at one input. -/
def fnExactFracTextWrong : ChangeSpec := { name := "fnExactFracText", vars := ["loop.example/mortiser/impl.errNoFrac"], fn := fun _ => fun
  | [d, g1] => { results := [.lit (.bool false)], args := [d], vars := [g1] }
  | _ => none }
def FnExactFracTextWrongFalsely : Prop := fnExactFracTextRow.holds Tryd.pinned (OpenSpec.ofChange fnExactFracTextWrong)

/-- 'laws.FnFracText': WHATEVER THE INPUT: true; the input reads as it did. -/
def fnFracTextSpec : ChangeSpec := { name := "fnFracText", vars := ["loop.example/mortiser/impl.errNoFrac"], fn := fun _ => fun
  | [d1, d2, g1] => { results := [.lit (.bool true)], args := [d1, d2], vars := [g1] }
  | _ => none }
def fnFracTextRow : OpenClaim := { program := "ytddbahlofgkoaaadoor", sum := "56fe7d27879875162e3d2432f3932aca750cf6aeb85b2ec37e4c53e0c3924f05", func := "loop.example/mortiser/laws.FnFracText", spec := "fnFracText", inPlace := ["internal/reflectlite.TypeOf"], unfollowed := true, recurses := true, named := ["loop.example/mortiser/impl.errNoFrac"], ifaces := true, apart := false, laid := [("loop.example/mortiser/impl.errNoFrac", laid_loop_example_mortiser_impl_errNoFrac)] }
def FnFracTextSaid : Prop := fnFracTextRow.holds Tryd.pinned (OpenSpec.ofChange fnFracTextSpec)

/-- ITS FALSE NEIGHBOUR: 'it returns false'. Refute it at one input. -/
def fnFracTextWrong : ChangeSpec := { name := "fnFracText", vars := ["loop.example/mortiser/impl.errNoFrac"], fn := fun _ => fun
  | [d1, d2, g1] => { results := [.lit (.bool false)], args := [d1, d2], vars := [g1] }
  | _ => none }
def FnFracTextWrongFalsely : Prop := fnFracTextRow.holds Tryd.pinned (OpenSpec.ofChange fnFracTextWrong)

/-- 'laws.FnExactLoopRead': WHATEVER THE INPUT: true; the input reads as it did. -/
def fnExactLoopReadSpec : ChangeSpec := { name := "fnExactLoopRead", fn := fun _ => fun
  | [d] => { results := [.lit (.bool true)], args := [d] }
  | _ => none }
def fnExactLoopReadRow : OpenClaim := { program := "ytddbahlofgkoaaadoor", sum := "56fe7d27879875162e3d2432f3932aca750cf6aeb85b2ec37e4c53e0c3924f05", func := "loop.example/mortiser/laws.FnExactLoopRead", spec := "fnExactLoopRead", inPlace := ["internal/bytealg.CountString", "internal/bytealg.IndexByteString", "internal/bytealg.IndexString"], unfollowed := true, recurses := true, named := ["unicode/utf8.first", "unicode/utf8.acceptRanges", "internal/bytealg.MaxLen"], apart := false, laid := [("unicode/utf8.acceptRanges", laid_unicode_utf8_acceptRanges), ("unicode/utf8.first", laid_unicode_utf8_first)] }
def FnExactLoopReadSaid : Prop := fnExactLoopReadRow.holds Tryd.pinned (OpenSpec.ofChange fnExactLoopReadSpec)

/-- ITS FALSE NEIGHBOUR: 'it returns false'. Refute it at one input. -/
def fnExactLoopReadWrong : ChangeSpec := { name := "fnExactLoopRead", fn := fun _ => fun
  | [d] => { results := [.lit (.bool false)], args := [d] }
  | _ => none }
def FnExactLoopReadWrongFalsely : Prop := fnExactLoopReadRow.holds Tryd.pinned (OpenSpec.ofChange fnExactLoopReadWrong)

/-- 'laws.FnExactLoopText': WHATEVER THE INPUT: true; the input reads as it did. -/
def fnExactLoopTextSpec : ChangeSpec := { name := "fnExactLoopText", fn := fun _ => fun
  | [d] => { results := [.lit (.bool true)], args := [d] }
  | _ => none }
def fnExactLoopTextRow : OpenClaim := { program := "ytddbahlofgkoaaadoor", sum := "56fe7d27879875162e3d2432f3932aca750cf6aeb85b2ec37e4c53e0c3924f05", func := "loop.example/mortiser/laws.FnExactLoopText", spec := "fnExactLoopText", inPlace := ["internal/abi.NoEscape", "internal/bytealg.MakeNoZero"], unfollowed := true, recurses := true, named := ["internal/strconv.uint64pow10", "math/bits.deBruijn32tab", "math/bits.deBruijn64tab"], apart := false, laid := [("math/bits.deBruijn32tab", laid_math_bits_deBruijn32tab), ("math/bits.deBruijn64tab", laid_math_bits_deBruijn64tab), ("internal/strconv.uint64pow10", laid_internal_strconv_uint64pow10)] }
def FnExactLoopTextSaid : Prop := fnExactLoopTextRow.holds Tryd.pinned (OpenSpec.ofChange fnExactLoopTextSpec)

/-- ITS FALSE NEIGHBOUR: 'it returns false'. Refute it at one input. -/
def fnExactLoopTextWrong : ChangeSpec := { name := "fnExactLoopText", fn := fun _ => fun
  | [d] => { results := [.lit (.bool false)], args := [d] }
  | _ => none }
def FnExactLoopTextWrongFalsely : Prop := fnExactLoopTextRow.holds Tryd.pinned (OpenSpec.ofChange fnExactLoopTextWrong)

/- THE SECOND FORM. 'bulk': how many values and letters a reading holds, each counted each time it is reached (what is shared counts as often as it is met; a slice's spare places count too). A statement '..UptoSaid' is the law's where the arguments, and the package variables that the reading takes, are together of bulk at most 1048576: NARROWER than '..Said'. Prove '..Said' where nothing that the law and all that it calls make is longer than what came in: it says more and counts as full. Else prove '..UptoSaid'. A law counts once. -/
mutual
def uptoBulk {H : Type} : DataW H → Nat
  | .lit (.string bytes) => bytes.length + 1
  | .lit _ => 1
  | .nil => 1
  | .ptr d => uptoBulk d + 1
  | .slice elems spare => uptoBulkAll elems + uptoBulkAll spare + 1
  | .agg parts => uptoBulkAll parts + 1
  | .iface _ d => uptoBulk d + 1
  | .map entries => uptoBulkEntries entries + 1
  | .held _ => 1
def uptoBulkAll {H : Type} : List (DataW H) → Nat
  | [] => 0
  | d :: r => uptoBulk d + uptoBulkAll r
def uptoBulkEntries {H : Type} : List (Lit × DataW H) → Nat
  | [] => 0
  | x :: r => uptoBulkEntry x + uptoBulkEntries r
def uptoBulkEntry {H : Type} : Lit × DataW H → Nat
  | (.string bytes, d) => bytes.length + uptoBulk d + 1
  | (_, d) => uptoBulk d + 1
 end
def uptoSmall : (H : Type) → List (DataW H) → Bool := fun _ ds => decide (uptoBulkAll ds ≤ 1048576)
def OpenSpec.upto (s : _root_.Go.ChangeSpec) : _root_.Go.OpenSpec := { _root_.Go.OpenSpec.ofChange s with cond := some uptoSmall }

/-- 'laws.FnExactPlateText', WHERE WHAT IT READS IS OF BULK AT MOST 1048576: true; the input reads as it did. -/
def fnExactPlateTextUptoRow : OpenClaim := { program := "ytddbahlofgkoaaadoor", sum := "56fe7d27879875162e3d2432f3932aca750cf6aeb85b2ec37e4c53e0c3924f05", func := "loop.example/mortiser/laws.FnExactPlateText", spec := "fnExactPlateText", inPlace := ["internal/abi.NoEscape", "internal/bytealg.MakeNoZero"], unfollowed := true, recurses := true, named := ["internal/strconv.uint64pow10", "math/bits.deBruijn32tab", "math/bits.deBruijn64tab"], apart := false, laid := [("math/bits.deBruijn32tab", laid_math_bits_deBruijn32tab), ("math/bits.deBruijn64tab", laid_math_bits_deBruijn64tab), ("internal/strconv.uint64pow10", laid_internal_strconv_uint64pow10)], narrowed := true }
def FnExactPlateTextUptoSaid : Prop := fnExactPlateTextUptoRow.holds Tryd.pinned (OpenSpec.upto fnExactPlateTextSpec)

/-- 'laws.FnExactFracOk', WHERE WHAT IT READS IS OF BULK AT MOST 1048576: true; the input reads as it did. -/
def fnExactFracOkUptoRow : OpenClaim := { program := "ytddbahlofgkoaaadoor", sum := "56fe7d27879875162e3d2432f3932aca750cf6aeb85b2ec37e4c53e0c3924f05", func := "loop.example/mortiser/laws.FnExactFracOk", spec := "fnExactFracOk", inPlace := ["internal/reflectlite.TypeOf"], unfollowed := true, recurses := true, named := ["loop.example/mortiser/impl.errNoFrac"], ifaces := true, apart := false, laid := [("loop.example/mortiser/impl.errNoFrac", laid_loop_example_mortiser_impl_errNoFrac)], narrowed := true }
def FnExactFracOkUptoSaid : Prop := fnExactFracOkUptoRow.holds Tryd.pinned (OpenSpec.upto fnExactFracOkSpec)

/-- 'laws.FnLoopBack', WHERE WHAT IT READS IS OF BULK AT MOST 1048576: true; the input reads as it did. -/
def fnLoopBackUptoRow : OpenClaim := { program := "ytddbahlofgkoaaadoor", sum := "56fe7d27879875162e3d2432f3932aca750cf6aeb85b2ec37e4c53e0c3924f05", func := "loop.example/mortiser/laws.FnLoopBack", spec := "fnLoopBack", inPlace := ["internal/abi.NoEscape", "internal/bytealg.MakeNoZero", "internal/bytealg.CountString", "internal/bytealg.IndexByteString", "internal/bytealg.IndexString"], unfollowed := true, recurses := true, named := ["internal/strconv.uint64pow10", "math/bits.deBruijn32tab", "math/bits.deBruijn64tab", "unicode/utf8.first", "unicode/utf8.acceptRanges", "internal/bytealg.MaxLen"], apart := false, laid := [("math/bits.deBruijn32tab", laid_math_bits_deBruijn32tab), ("math/bits.deBruijn64tab", laid_math_bits_deBruijn64tab), ("internal/strconv.uint64pow10", laid_internal_strconv_uint64pow10), ("unicode/utf8.acceptRanges", laid_unicode_utf8_acceptRanges), ("unicode/utf8.first", laid_unicode_utf8_first)], narrowed := true }
def FnLoopBackUptoSaid : Prop := fnLoopBackUptoRow.holds Tryd.pinned (OpenSpec.upto fnLoopBackSpec)

/-- 'laws.FnFracOf', WHERE WHAT IT READS IS OF BULK AT MOST 1048576: true; the input reads as it did. -/
def fnFracOfUptoRow : OpenClaim := { program := "ytddbahlofgkoaaadoor", sum := "56fe7d27879875162e3d2432f3932aca750cf6aeb85b2ec37e4c53e0c3924f05", func := "loop.example/mortiser/laws.FnFracOf", spec := "fnFracOf", inPlace := ["internal/reflectlite.TypeOf"], unfollowed := true, recurses := true, named := ["loop.example/mortiser/impl.errNoFrac"], ifaces := true, apart := false, laid := [("loop.example/mortiser/impl.errNoFrac", laid_loop_example_mortiser_impl_errNoFrac)], narrowed := true }
def FnFracOfUptoSaid : Prop := fnFracOfUptoRow.holds Tryd.pinned (OpenSpec.upto fnFracOfSpec)

/-- 'laws.FnLoopStrict', WHERE WHAT IT READS IS OF BULK AT MOST 1048576: true; the input reads as it did. -/
def fnLoopStrictUptoRow : OpenClaim := { program := "ytddbahlofgkoaaadoor", sum := "56fe7d27879875162e3d2432f3932aca750cf6aeb85b2ec37e4c53e0c3924f05", func := "loop.example/mortiser/laws.FnLoopStrict", spec := "fnLoopStrict", inPlace := ["internal/bytealg.CountString", "internal/bytealg.IndexByteString", "internal/bytealg.IndexString", "internal/abi.NoEscape", "internal/bytealg.MakeNoZero"], unfollowed := true, recurses := true, named := ["unicode/utf8.first", "unicode/utf8.acceptRanges", "internal/bytealg.MaxLen", "internal/strconv.uint64pow10", "math/bits.deBruijn32tab", "math/bits.deBruijn64tab"], apart := false, laid := [("math/bits.deBruijn32tab", laid_math_bits_deBruijn32tab), ("math/bits.deBruijn64tab", laid_math_bits_deBruijn64tab), ("internal/strconv.uint64pow10", laid_internal_strconv_uint64pow10), ("unicode/utf8.acceptRanges", laid_unicode_utf8_acceptRanges), ("unicode/utf8.first", laid_unicode_utf8_first)], narrowed := true }
def FnLoopStrictUptoSaid : Prop := fnLoopStrictUptoRow.holds Tryd.pinned (OpenSpec.upto fnLoopStrictSpec)

/-- 'laws.FnExactFracText', WHERE WHAT IT READS IS OF BULK AT MOST 1048576: true; the input reads as it did. -/
def fnExactFracTextUptoRow : OpenClaim := { program := "ytddbahlofgkoaaadoor", sum := "56fe7d27879875162e3d2432f3932aca750cf6aeb85b2ec37e4c53e0c3924f05", func := "loop.example/mortiser/laws.FnExactFracText", spec := "fnExactFracText", inPlace := ["internal/reflectlite.TypeOf"], unfollowed := true, recurses := true, named := ["loop.example/mortiser/impl.errNoFrac"], ifaces := true, apart := false, laid := [("loop.example/mortiser/impl.errNoFrac", laid_loop_example_mortiser_impl_errNoFrac)], narrowed := true }
def FnExactFracTextUptoSaid : Prop := fnExactFracTextUptoRow.holds Tryd.pinned (OpenSpec.upto fnExactFracTextSpec)

/-- 'laws.FnFracText', WHERE WHAT IT READS IS OF BULK AT MOST 1048576: true; the input reads as it did. -/
def fnFracTextUptoRow : OpenClaim := { program := "ytddbahlofgkoaaadoor", sum := "56fe7d27879875162e3d2432f3932aca750cf6aeb85b2ec37e4c53e0c3924f05", func := "loop.example/mortiser/laws.FnFracText", spec := "fnFracText", inPlace := ["internal/reflectlite.TypeOf"], unfollowed := true, recurses := true, named := ["loop.example/mortiser/impl.errNoFrac"], ifaces := true, apart := false, laid := [("loop.example/mortiser/impl.errNoFrac", laid_loop_example_mortiser_impl_errNoFrac)], narrowed := true }
def FnFracTextUptoSaid : Prop := fnFracTextUptoRow.holds Tryd.pinned (OpenSpec.upto fnFracTextSpec)

/-- 'laws.FnExactLoopRead', WHERE WHAT IT READS IS OF BULK AT MOST 1048576: true; the input reads as it did. -/
def fnExactLoopReadUptoRow : OpenClaim := { program := "ytddbahlofgkoaaadoor", sum := "56fe7d27879875162e3d2432f3932aca750cf6aeb85b2ec37e4c53e0c3924f05", func := "loop.example/mortiser/laws.FnExactLoopRead", spec := "fnExactLoopRead", inPlace := ["internal/bytealg.CountString", "internal/bytealg.IndexByteString", "internal/bytealg.IndexString"], unfollowed := true, recurses := true, named := ["unicode/utf8.first", "unicode/utf8.acceptRanges", "internal/bytealg.MaxLen"], apart := false, laid := [("unicode/utf8.acceptRanges", laid_unicode_utf8_acceptRanges), ("unicode/utf8.first", laid_unicode_utf8_first)], narrowed := true }
def FnExactLoopReadUptoSaid : Prop := fnExactLoopReadUptoRow.holds Tryd.pinned (OpenSpec.upto fnExactLoopReadSpec)

/-- 'laws.FnExactLoopText', WHERE WHAT IT READS IS OF BULK AT MOST 1048576: true; the input reads as it did. -/
def fnExactLoopTextUptoRow : OpenClaim := { program := "ytddbahlofgkoaaadoor", sum := "56fe7d27879875162e3d2432f3932aca750cf6aeb85b2ec37e4c53e0c3924f05", func := "loop.example/mortiser/laws.FnExactLoopText", spec := "fnExactLoopText", inPlace := ["internal/abi.NoEscape", "internal/bytealg.MakeNoZero"], unfollowed := true, recurses := true, named := ["internal/strconv.uint64pow10", "math/bits.deBruijn32tab", "math/bits.deBruijn64tab"], apart := false, laid := [("math/bits.deBruijn32tab", laid_math_bits_deBruijn32tab), ("math/bits.deBruijn64tab", laid_math_bits_deBruijn64tab), ("internal/strconv.uint64pow10", laid_internal_strconv_uint64pow10)], narrowed := true }
def FnExactLoopTextUptoSaid : Prop := fnExactLoopTextUptoRow.holds Tryd.pinned (OpenSpec.upto fnExactLoopTextSpec)

end Rows
end Go.Proofs.YtddbahlofgkoaaaDoor
