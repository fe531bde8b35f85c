/- What the row of FnExactPlateText rests on, part 2: words, plain facts, functions and their contracts. No condition. -/
import Derived.Test.YtddbahlofgkoaaaDoorMFnExactPlateTextb
import Derived.Test.YtddbahlofgkoaaaDoorMFnExactPlateTexta
import Derived.Shelf.Strings.Builder1
import Derived.Shelf.Strings.Builder2
import Derived.Shelf.Strings.OnBuilder
import Derived.Shelf.Strings.BuilderF
import Derived.Shelf.Strings.BuilderK
import Derived.Shelf.Utf8.RuneCount
import Derived.Shelf.Strconv.Itoa0
import Derived.Shelf.Strconv.Itoa1
import Derived.Shelf.LaysM
import Derived.Shelf.Strconv.Itoa2
import Derived.Shelf.Strconv.Itoa3
import Derived.Shelf.Strconv.Itoa4
import Derived.Shelf.Strings.Search1
import Derived.Shelf.Strings.Search2
import Derived.Shelf.Strings.Search3
import Derived.Shelf.Strings.Count
import Derived.Shelf.Strings.Shaped
import Derived.Shelf.Strings.Split
import Derived.Shelf.Strings.SplitShaped
import Derived.Shelf.Unicode.Decode
import Derived.Shelf.Strings.RuneCount
import Derived.Shelf.Strings.Explode
import Derived.Shelf.Unicode.DecodeSlow
import Derived.Shelf.Unicode.DecodeAny
import Derived.Test.YtddbahlofgkoaaaDoorProg
import Derived.Tactics
import Derived.KernelRfl
import Derived.Below
import Derived.Deep.Draws
import Derived.Deep.AppendLies
import Derived.Maps.AppendAt
import Derived.OwnWalk
import Derived.Laws.BytesArg
import Derived.Laws.MakeOwn
import Derived.Laws.OwnMore
import Derived.Deep.OwnRows
import Derived.Lib.ConvBytes
import Derived.Laws.Slices
import Derived.WalkKit
import Derived.RowKit3
import Derived.Deep.LoopGhost
import Derived.Deep.QuietTactic
import Derived.BigQuiet
import Derived.WideLaws
import Derived.Deep.DeepCutAuto
import Derived.Deep.CutBlock
import Derived.Deep.RegionHeld3
import Derived.Laws.Rows
import Derived.Lib.AppendStr
import Derived.ArgAppend
import Derived.Laws.IdiomCopy
import Derived.OrdersHeld
import Derived.Laws.BitsLemmas
import Derived.RowKit
import Derived.Laws.EntriesVeiled
import Derived.LaidEql
import Derived.Stop.Asserts
import Derived.RangeFuncNested
import Derived.RangeFuncBound
import Derived.RangeFuncCalls
import Derived.RangeFuncLeaves
import Derived.LaidEqlPtr
import Derived.Shelf.Abstract
import Derived.Shelf.RegionOpen
import Derived.OwnWalkIn
import Derived.TacticsInMore
import Derived.LoopNIn
import Derived.LoopIn
namespace Go.Proofs
open Go.Shelf
def Tryd.lays169_ren : Go.Shelf.Ren := ⟨fun | 169 => 48 | n => n, fun | 70 => 68 | 9 => 9 | 0 => 0 | 72 => 70 | 37 => 41 | 127 => 119 | 3 => 3 | 5 => 5 | n => n, fun | n => n⟩
theorem Tryd.lays169 : Go.Proofs.Lays.n169 Tryd.prog Tryd.lays169_ren := {
  mixed := by kernel_rfl
  f169 := Tryd.func48.trans (congrArg some (by kernel_rfl))
  t0 := Tryd.underlying0
  a0 := Tryd.isAgg0
  z0 := Tryd.sizeOf0
  v0 := Tryd.zeroValue0
  t3 := Tryd.underlying3
  a3 := Tryd.isAgg3
  z3 := Tryd.sizeOf3
  v3 := Tryd.zeroValue3
  t9 := Tryd.underlying9
  a9 := Tryd.isAgg9
  z9 := Tryd.sizeOf9
  v9 := Tryd.zeroValue9
  t37 := Tryd.underlying41
  a37 := Tryd.isAgg41
  z37 := Tryd.sizeOf41
  v37 := Tryd.zeroValue41
  t70 := Tryd.underlying68
  a70 := Tryd.isAgg68
  z70 := Tryd.sizeOf68
  v70 := Tryd.zeroValue68
  t72 := Tryd.underlying70
  a72 := Tryd.isAgg70
  z72 := Tryd.sizeOf70
  v72 := Tryd.zeroValue70
  t127 := Tryd.underlying119
  a127 := Tryd.isAgg119
  z127 := Tryd.sizeOf119
  v127 := Tryd.zeroValue119 }
theorem Tryd.Builder_Extra_169 : Builder.Extra Tryd.prog Tryd.lays169_ren := {
  sizeBuilder := by kernel_rfl
  liesBuilder := by kernel_rfl
  t5 := Tryd.underlying5
  a5 := Tryd.isAgg5
  z5 := Tryd.sizeOf5
  v5 := Tryd.zeroValue5
  infoByte := by kernel_rfl
  cellsByte := by kernel_rfl
  sizeByte := by kernel_rfl
  neB5 := by decide }
open Go.RowKit in
theorem Tryd.Builder_String_any (B b : Nat) (l : List UInt8) (w : World) (h : Lib.IsBuilder 70 5 B b (Lib.byteCells l) w) (hBw : B ≤ w.heap.size) :
    Calls Tryd.prog 48 #[.pointer (some ⟨b, 0, none⟩)] w fun e w' => e = .returned (.string ⟨l.toArray⟩) ∧ Below B w w' := Any.Builder_String_any Tryd.lays169 Tryd.Builder_Extra_169 B b l w h hBw
def Tryd.lays156_ren : Go.Shelf.Ren := ⟨fun | 156 => 79 | 165 => 100 | 166 => 45 | 169 => 48 | 240 => 77 | 241 => 111 | 276 => 98 | 277 => 117 | n => n, fun | 31 => 94 | 9 => 9 | 3 => 3 | 4 => 4 | 0 => 0 | 20 => 20 | 72 => 70 | 76 => 79 | 70 => 68 | 37 => 41 | 75 => 78 | 127 => 119 | 164 => 141 | 5 => 5 | 80 => 82 | n => n, fun | n => n⟩
theorem Tryd.lays156 : Go.Proofs.Lays.n156 Tryd.prog Tryd.lays156_ren := {
  mixed := by kernel_rfl
  f156 := Tryd.func79.trans (congrArg some (by kernel_rfl))
  f165 := Tryd.func100.trans (congrArg some (by kernel_rfl))
  f166 := Tryd.func45.trans (congrArg some (by kernel_rfl))
  f169 := Tryd.func48.trans (congrArg some (by kernel_rfl))
  f240 := Tryd.func77.trans (congrArg some (by kernel_rfl))
  f241 := Tryd.func111.trans (congrArg some (by kernel_rfl))
  f276 := Tryd.func98.trans (congrArg some (by kernel_rfl))
  f277 := Tryd.func117.trans (congrArg some (by kernel_rfl))
  t0 := Tryd.underlying0
  a0 := Tryd.isAgg0
  z0 := Tryd.sizeOf0
  v0 := Tryd.zeroValue0
  t3 := Tryd.underlying3
  a3 := Tryd.isAgg3
  z3 := Tryd.sizeOf3
  v3 := Tryd.zeroValue3
  t4 := Tryd.underlying4
  a4 := Tryd.isAgg4
  z4 := Tryd.sizeOf4
  v4 := Tryd.zeroValue4
  t9 := Tryd.underlying9
  a9 := Tryd.isAgg9
  z9 := Tryd.sizeOf9
  v9 := Tryd.zeroValue9
  t20 := Tryd.underlying20
  a20 := Tryd.isAgg20
  z20 := Tryd.sizeOf20
  v20 := Tryd.zeroValue20
  t31 := Tryd.underlying94
  a31 := Tryd.isAgg94
  z31 := Tryd.sizeOf94
  v31 := Tryd.zeroValue94
  t37 := Tryd.underlying41
  a37 := Tryd.isAgg41
  z37 := Tryd.sizeOf41
  v37 := Tryd.zeroValue41
  t70 := Tryd.underlying68
  a70 := Tryd.isAgg68
  z70 := Tryd.sizeOf68
  v70 := Tryd.zeroValue68
  t72 := Tryd.underlying70
  a72 := Tryd.isAgg70
  z72 := Tryd.sizeOf70
  v72 := Tryd.zeroValue70
  t75 := Tryd.underlying78
  a75 := Tryd.isAgg78
  z75 := Tryd.sizeOf78
  v75 := Tryd.zeroValue78
  t76 := Tryd.underlying79
  a76 := Tryd.isAgg79
  z76 := Tryd.sizeOf79
  v76 := Tryd.zeroValue79
  t127 := Tryd.underlying119
  a127 := Tryd.isAgg119
  z127 := Tryd.sizeOf119
  v127 := Tryd.zeroValue119
  t164 := Tryd.underlying141
  a164 := Tryd.isAgg141
  z164 := Tryd.sizeOf141
  v164 := Tryd.zeroValue141 }
theorem Tryd.Builder_Extra_156 : Builder.Extra Tryd.prog Tryd.lays156_ren := {
  sizeBuilder := by kernel_rfl
  liesBuilder := by kernel_rfl
  t5 := Tryd.underlying5
  a5 := Tryd.isAgg5
  z5 := Tryd.sizeOf5
  v5 := Tryd.zeroValue5
  infoByte := by kernel_rfl
  cellsByte := by kernel_rfl
  sizeByte := by kernel_rfl
  neB5 := by decide }
open Go.RowKit in
theorem Tryd.strings_Join (bk o c : Nat) (xs : List ByteArray) (sep : ByteArray) (w : World) (hcells : ∀ (j : Nat) x, xs[j]? = some x → w.cell? ⟨bk, o + j, none⟩ = some (.string x)) (hbk : bk < w.heap.size) (hN : xs.length ≤ 140737488355328) (hcap : xs.length ≤ c) (hlen : (Lib.join (xs.map (·.data.toList)) sep.data.toList).length ≤ 140737488355328) :
    Calls Tryd.prog 79 #[.slice (some ⟨bk, o, none⟩) xs.length c, .string sep] w fun e w' => e = .returned (.string ⟨(Lib.join (xs.map (·.data.toList)) sep.data.toList).toArray⟩) ∧ Below w.heap.size w w' := Any.strings_Join Tryd.lays156 Tryd.Builder_Extra_156 bk o c xs sep w hcells hbk hN hcap hlen
def Tryd.lays171_ren : Go.Shelf.Ren := ⟨fun | 171 => 99 | 243 => 110 | 246 => 116 | 283 => 123 | 284 => 124 | 285 => 125 | 286 => 126 | 129 => 130 | 317 => 129 | 318 => 131 | 319 => 132 | 320 => 133 | 337 => 134 | 338 => 135 | n => n, fun | 3 => 3 | 9 => 9 | 2 => 2 | 4 => 4 | 171 => 165 | 0 => 0 | 53 => 166 | 37 => 41 | 5 => 5 | 173 => 169 | 212 => 179 | 51 => 175 | 20 => 20 | 213 => 180 | 46 => 164 | 232 => 184 | 233 => 185 | n => n, fun | 17 => 4 | 18 => 5 | 19 => 6 | n => n⟩
theorem Tryd.lays171 : Go.Proofs.Lays.n171 Tryd.prog Tryd.lays171_ren := {
  mixed := by kernel_rfl
  f129 := Tryd.func130.trans (congrArg some (by kernel_rfl))
  f171 := Tryd.func99.trans (congrArg some (by kernel_rfl))
  f243 := Tryd.func110.trans (congrArg some (by kernel_rfl))
  f246 := Tryd.func116.trans (congrArg some (by kernel_rfl))
  f283 := Tryd.func123.trans (congrArg some (by kernel_rfl))
  f284 := Tryd.func124.trans (congrArg some (by kernel_rfl))
  f285 := Tryd.func125.trans (congrArg some (by kernel_rfl))
  f286 := Tryd.func126.trans (congrArg some (by kernel_rfl))
  f317 := Tryd.func129.trans (congrArg some (by kernel_rfl))
  f318 := Tryd.func131.trans (congrArg some (by kernel_rfl))
  f319 := Tryd.func132.trans (congrArg some (by kernel_rfl))
  f320 := Tryd.func133.trans (congrArg some (by kernel_rfl))
  f337 := Tryd.func134.trans (congrArg some (by kernel_rfl))
  f338 := Tryd.func135.trans (congrArg some (by kernel_rfl))
  t0 := Tryd.underlying0
  a0 := Tryd.isAgg0
  z0 := Tryd.sizeOf0
  v0 := Tryd.zeroValue0
  t2 := Tryd.underlying2
  a2 := Tryd.isAgg2
  z2 := Tryd.sizeOf2
  v2 := Tryd.zeroValue2
  t3 := Tryd.underlying3
  a3 := Tryd.isAgg3
  z3 := Tryd.sizeOf3
  v3 := Tryd.zeroValue3
  t4 := Tryd.underlying4
  a4 := Tryd.isAgg4
  z4 := Tryd.sizeOf4
  v4 := Tryd.zeroValue4
  t5 := Tryd.underlying5
  a5 := Tryd.isAgg5
  z5 := Tryd.sizeOf5
  v5 := Tryd.zeroValue5
  t9 := Tryd.underlying9
  a9 := Tryd.isAgg9
  z9 := Tryd.sizeOf9
  v9 := Tryd.zeroValue9
  t20 := Tryd.underlying20
  a20 := Tryd.isAgg20
  z20 := Tryd.sizeOf20
  v20 := Tryd.zeroValue20
  t37 := Tryd.underlying41
  a37 := Tryd.isAgg41
  z37 := Tryd.sizeOf41
  v37 := Tryd.zeroValue41
  t46 := Tryd.underlying164
  a46 := Tryd.isAgg164
  z46 := Tryd.sizeOf164
  v46 := Tryd.zeroValue164
  t51 := Tryd.underlying175
  a51 := Tryd.isAgg175
  z51 := Tryd.sizeOf175
  v51 := Tryd.zeroValue175
  t53 := Tryd.underlying166
  a53 := Tryd.isAgg166
  z53 := Tryd.sizeOf166
  v53 := Tryd.zeroValue166
  t171 := Tryd.underlying165
  a171 := Tryd.isAgg165
  z171 := Tryd.sizeOf165
  v171 := Tryd.zeroValue165
  t173 := Tryd.underlying169
  a173 := Tryd.isAgg169
  z173 := Tryd.sizeOf169
  v173 := Tryd.zeroValue169
  t212 := Tryd.underlying179
  a212 := Tryd.isAgg179
  z212 := Tryd.sizeOf179
  v212 := Tryd.zeroValue179
  t213 := Tryd.underlying180
  a213 := Tryd.isAgg180
  z213 := Tryd.sizeOf180
  t232 := Tryd.underlying184
  a232 := Tryd.isAgg184
  z232 := Tryd.sizeOf184
  v232 := Tryd.zeroValue184
  t233 := Tryd.underlying185
  a233 := Tryd.isAgg185
  z233 := Tryd.sizeOf185
  v233 := Tryd.zeroValue185
  g17 := by kernel_rfl
  g18 := by kernel_rfl
  g19 := by kernel_rfl }
open Go.RowKit Go.Sort Go.Lib in
theorem Tryd.strconv_Itoa_small (i : Nat) (hi : i < 100) (w : World) :
    Calls Tryd.prog 99 #[.int .i64 i] w fun e w' => e = .returned (.string ⟨(Lib.decDigits i).toArray⟩) ∧ w' = w := Any.strconv_Itoa_small Tryd.lays171 i hi w
def Tryd.lays166_ren : Go.Shelf.Ren := ⟨fun | 156 => 79 | 165 => 100 | 166 => 45 | 169 => 48 | 240 => 77 | 241 => 111 | 276 => 98 | 277 => 117 | n => n, fun | 31 => 94 | 9 => 9 | 3 => 3 | 4 => 4 | 0 => 0 | 20 => 20 | 72 => 70 | 76 => 79 | 70 => 68 | 37 => 41 | 75 => 78 | 127 => 119 | 164 => 141 | 5 => 5 | 80 => 82 | n => n, fun | n => n⟩
theorem Tryd.lays166 : Go.Proofs.Lays.n166 Tryd.prog Tryd.lays166_ren := {
  mixed := by kernel_rfl
  f166 := Tryd.lays156.f166.trans (congrArg some (by kernel_rfl))
  f240 := Tryd.lays156.f240.trans (congrArg some (by kernel_rfl))
  f276 := Tryd.lays156.f276.trans (congrArg some (by kernel_rfl))
  t0 := Tryd.lays156.t0
  a0 := Tryd.lays156.a0
  z0 := Tryd.lays156.z0
  v0 := Tryd.lays156.v0
  t3 := Tryd.lays156.t3
  a3 := Tryd.lays156.a3
  z3 := Tryd.lays156.z3
  v3 := Tryd.lays156.v3
  t4 := Tryd.lays156.t4
  a4 := Tryd.lays156.a4
  z4 := Tryd.lays156.z4
  v4 := Tryd.lays156.v4
  t9 := Tryd.lays156.t9
  a9 := Tryd.lays156.a9
  z9 := Tryd.lays156.z9
  v9 := Tryd.lays156.v9
  t20 := Tryd.lays156.t20
  a20 := Tryd.lays156.a20
  z20 := Tryd.lays156.z20
  v20 := Tryd.lays156.v20
  t37 := Tryd.lays156.t37
  a37 := Tryd.lays156.a37
  z37 := Tryd.lays156.z37
  v37 := Tryd.lays156.v37
  t70 := Tryd.lays156.t70
  a70 := Tryd.lays156.a70
  z70 := Tryd.lays156.z70
  v70 := Tryd.lays156.v70
  t72 := Tryd.lays156.t72
  a72 := Tryd.lays156.a72
  z72 := Tryd.lays156.z72
  v72 := Tryd.lays156.v72
  t75 := Tryd.lays156.t75
  a75 := Tryd.lays156.a75
  z75 := Tryd.lays156.z75
  v75 := Tryd.lays156.v75
  t164 := Tryd.lays156.t164
  a164 := Tryd.lays156.a164
  z164 := Tryd.lays156.z164
  v164 := Tryd.lays156.v164 }
theorem Tryd.Builder_Extra_166 : Builder.Extra Tryd.prog Tryd.lays166_ren := {
  sizeBuilder := by kernel_rfl
  liesBuilder := by kernel_rfl
  t5 := Tryd.underlying5
  a5 := Tryd.isAgg5
  z5 := Tryd.sizeOf5
  v5 := Tryd.zeroValue5
  infoByte := by kernel_rfl
  cellsByte := by kernel_rfl
  sizeByte := by kernel_rfl
  neB5 := by decide }
def Tryd.lays167_ren : Go.Shelf.Ren := ⟨fun | 167 => 47 | 156 => 79 | 165 => 100 | 166 => 45 | 169 => 48 | 240 => 77 | 241 => 111 | 276 => 98 | 277 => 117 | n => n, fun | 31 => 94 | 9 => 9 | 3 => 3 | 4 => 4 | 0 => 0 | 20 => 20 | 72 => 70 | 76 => 79 | 70 => 68 | 37 => 41 | 75 => 78 | 127 => 119 | 164 => 141 | 5 => 5 | 80 => 82 | n => n, fun | n => n⟩
theorem Tryd.lays167 : Go.Proofs.Lays.n167 Tryd.prog Tryd.lays167_ren := {
  mixed := by kernel_rfl
  f167 := Tryd.func47.trans (congrArg some (by kernel_rfl))
  f240 := Tryd.lays156.f240.trans (congrArg some (by kernel_rfl))
  f276 := Tryd.lays156.f276.trans (congrArg some (by kernel_rfl))
  t0 := Tryd.lays156.t0
  a0 := Tryd.lays156.a0
  z0 := Tryd.lays156.z0
  v0 := Tryd.lays156.v0
  t4 := Tryd.lays156.t4
  a4 := Tryd.lays156.a4
  z4 := Tryd.lays156.z4
  v4 := Tryd.lays156.v4
  t5 := Tryd.underlying5
  a5 := Tryd.isAgg5
  z5 := Tryd.sizeOf5
  v5 := Tryd.zeroValue5
  t9 := Tryd.lays156.t9
  a9 := Tryd.lays156.a9
  z9 := Tryd.lays156.z9
  v9 := Tryd.lays156.v9
  t20 := Tryd.lays156.t20
  a20 := Tryd.lays156.a20
  z20 := Tryd.lays156.z20
  v20 := Tryd.lays156.v20
  t37 := Tryd.lays156.t37
  a37 := Tryd.lays156.a37
  z37 := Tryd.lays156.z37
  v37 := Tryd.lays156.v37
  t70 := Tryd.lays156.t70
  a70 := Tryd.lays156.a70
  z70 := Tryd.lays156.z70
  v70 := Tryd.lays156.v70
  t72 := Tryd.lays156.t72
  a72 := Tryd.lays156.a72
  z72 := Tryd.lays156.z72
  v72 := Tryd.lays156.v72
  t75 := Tryd.lays156.t75
  a75 := Tryd.lays156.a75
  z75 := Tryd.lays156.z75
  v75 := Tryd.lays156.v75
  t164 := Tryd.lays156.t164
  a164 := Tryd.lays156.a164
  z164 := Tryd.lays156.z164
  v164 := Tryd.lays156.v164 }
theorem Tryd.Builder_Extra_167 : Builder.Extra Tryd.prog Tryd.lays167_ren := {
  sizeBuilder := by kernel_rfl
  liesBuilder := by kernel_rfl
  t5 := Tryd.underlying5
  a5 := Tryd.isAgg5
  z5 := Tryd.sizeOf5
  v5 := Tryd.zeroValue5
  infoByte := by kernel_rfl
  cellsByte := by kernel_rfl
  sizeByte := by kernel_rfl
  neB5 := by decide }
open Go.RowKit in
theorem Tryd.wByte (B b : Nat) (bs : List Value) (c : Int) (w : World) (h : Lib.IsBuilder 70 5 B b bs w) (hlen : bs.length + 1 ≤ 140737488355328) (hBw : B ≤ w.heap.size) :
    Calls Tryd.prog 47 #[.pointer (some ⟨b, 0, none⟩), .int .u8 c] w fun e w' => e = .returned .nilIface ∧ (Lib.BuilderAt 70 5 B b (.pointer (some ⟨b, 0, none⟩)) (bs ++ [.int .u8 c]) w' ∧ Below B w w') := Any.Builder_WriteByte Tryd.lays167 Tryd.Builder_Extra_167 B b bs c w h hlen hBw
open Go.RowKit in
theorem Tryd.wString (B b : Nat) (bs : List Value) (s : ByteArray) (w : World) (h : Lib.IsBuilder 70 5 B b bs w) (hlen : bs.length + s.size ≤ 140737488355328) (hBw : B ≤ w.heap.size) :
    Calls Tryd.prog 45 #[.pointer (some ⟨b, 0, none⟩), .string s] w fun e w' => e = .returned (.tuple #[.int .i64 s.size, .nilIface]) ∧ (Lib.BuilderAt 70 5 B b (.pointer (some ⟨b, 0, none⟩)) (bs ++ Lib.strCells s) w' ∧ Below B w w') := Any.Builder_WriteString Tryd.lays166 Tryd.Builder_Extra_166 B b bs s w h hlen hBw
end Go.Proofs
namespace Go.Proofs.YtddbahlofgkoaaaDoor.PA
open Go.RowKit Go.Proofs.YtddbahlofgkoaaaDoorW.PrintWords Go.Proofs.YtddbahlofgkoaaaDoorW.PrintLast Go.Proofs.YtddbahlofgkoaaaDoorW.PrintMore
structure Pu (P : Program) (md : Region.Mode) (ops : Array Oper) (Q : Exit → Act → World → Prop) (T : Bool × List (List Nat × List Nat)) (i : Nat) (oi : Oper) (N : Option Tmp) (v : Value) (l l' : Array Bool) (a a' : Act) : Prop where
  hi : ops[i]? = some oi := by exact rfl
  hN : oi.dst = N := by exact rfl
  hl : l.setIfInBounds i true = l' := by simp only [Geo.sa_, Geo.sb_, Geo.sc_]; rfl
  hc : anyT T l.toList l'.toList i = true := by kernel_rfl
  hQ : ∀ c a w, Q (.panic c) (a.put oi.dst v) w → Q (.panic c) a w := by exact fun _ _ _ h => h
  hw : Region.wanted oi (yielded ops a.tmps) = true := by kernel_rfl
  hy : ∀ w', (execOp a.eval oi).run P w' = .ok (.value v) w' := by intro w'; go_simp; with_reducible rfl
  ha : a.put N v = a' := by simp only [Act.put, Geo.sa_, Geo.sb_, Geo.sc_, i64_w, i32_w]; rfl
structure Pv (md : Region.Mode) (ops : Array Oper) (Q : Exit → Act → World → Prop) (T : Bool × List (List Nat × List Nat)) (i : Nat) (oi : Oper) (N : Option Tmp) (l l' : Array Bool) (a a' : Act) : Prop where
  hi : ops[i]? = some oi := by exact rfl
  hN : oi.dst = N := by exact rfl
  hl : l.setIfInBounds i true = l' := by simp only [Geo.sa_, Geo.sb_, Geo.sc_]; rfl
  hc : anyT T l.toList l'.toList i = true := by kernel_rfl
  hQ : ∀ c a w, Q (.panic c) (a.put oi.dst undef) w → Q (.panic c) a w := by exact fun _ _ _ h => h
  hw : Region.wanted oi (yielded ops a.tmps) = false := by kernel_rfl
  ha : a.put N undef = a' := by simp only [Act.put, Geo.sa_, Geo.sb_, Geo.sc_, i64_w, i32_w]; rfl
structure Tk (P : Program) (md : Region.Mode) (ops : Array Oper) (Q : Exit → Act → World → Prop) (S : World → Prop) (ds : List Nat) (T : Bool × List (List Nat × List Nat)) (B : List Nat) (i : Nat) (oi : Oper) (N : Option Tmp) (v : Value) (l l' : Array Bool) (a a' : Act) : Prop where
  hi : ops[i]? = some oi := by exact rfl
  hN : oi.dst = N := by exact rfl
  hl : l.setIfInBounds i true = l' := by simp only [Geo.sa_, Geo.sb_, Geo.sc_]; rfl
  hc : takeW T B ds l.toList l'.toList i = true := by kernel_rfl
  hQ : ∀ c a w, Q (.panic c) (a.put oi.dst v) w → Q (.panic c) a w := by exact fun _ _ _ h => h
  hw : Region.wanted oi (yielded ops a.tmps) = true := by kernel_rfl
  hy : ∀ w', S w' → (execOp a.eval oi).run P w' = .ok (.value v) w' := by intro w' hS_; go_simp; with_reducible rfl
  ha : a.put N v = a' := by simp only [Act.put, Geo.sa_, Geo.sb_, Geo.sc_, i64_w, i32_w]; rfl
section
variable {P : Program} {ops : Array Oper} {Q : Exit → Act → World → Prop} {md : Region.Mode} {S : World → Prop} {ds : List Nat} {T : Bool × List (List Nat × List Nat)} {oi : Oper} {v : Value} {fuel : Nat} {l l' : Array Bool} {a a' : Act} {w : World}
theorem pu_ (hT : rtab md ops = T) (i n : Nat) (s : Pu P md ops Q T i oi (some n) v l l' a a') (h : wpAnyLast P md ops Q S ds fuel l' a' w) : wpAnyLast P md ops Q S ds (fuel + 1) l a w :=
  pure_ _ s.hi s.hN (any_of hT s.hc) s.hQ (Or.inl ⟨s.hw, s.hy⟩) s.ha h
theorem pv_ (hT : rtab md ops = T) (i n : Nat) (s : Pv md ops Q T i oi (some n) l l' a a') (h : wpAnyLast P md ops Q S ds fuel l' a' w) : wpAnyLast P md ops Q S ds (fuel + 1) l a w :=
  pure_ _ s.hi s.hN (any_of hT s.hc) s.hQ (Or.inr ⟨s.hw, rfl⟩) s.ha h
theorem tk_ {B : List Nat} (hT : rtab md ops = T) (hB : waitsOk T.2 B = true) (i n : Nat) (hS : S w) (s : Tk P md ops Q S ds T B i oi (some n) v l l' a a') (h : wpAnyLast P md ops Q S ds fuel l' a' w) : wpAnyLast P md ops Q S ds (fuel + 1) l a w :=
  take_ _ s.hi s.hN (take_ofW hT hB s.hc) s.hQ (Or.inl ⟨s.hw, s.hy⟩) hS s.ha h
end
end Go.Proofs.YtddbahlofgkoaaaDoor.PA
namespace Go.Proofs.YtddbahlofgkoaaaDoor.PA
open Go.RowKit Go.Proofs.YtddbahlofgkoaaaDoorW.PrintWords Go.Proofs.YtddbahlofgkoaaaDoorW.PrintLast Go.Proofs.YtddbahlofgkoaaaDoorW.PrintMore
attribute [local go_sem] max2_int min2_int max_two min_two max_three min_three max_four min_four   -- for this text's walks alone
set_option linter.unusedVariables false
set_option linter.unusedSimpArgs false



def errW : Option Int → Value
 | none => .nilIface
 | some c => .iface 0 (.int .i64 c)
theorem errW_none : errW none = .nilIface := rfl
theorem errW_some (c : Int) : errW (some c) = .iface 0 (.int .i64 c) := rfl

theorem info3 : (Tryd.prog.info? 3).map (fun i => (i.zero, i.size, i.bytes)) = some (some (.int .i64 0), 1, 8) := by kernel_rfl
theorem info5 : (Tryd.prog.info? 5).map (fun i => (i.zero, i.size, i.bytes)) = some (some (.int .u8 0), 1, 1) := by kernel_rfl
theorem info9 : (Tryd.prog.info? 9).map (fun i => (i.zero, i.size, i.bytes)) = some (some (.string ⟨#[]⟩), 1, 16) := by kernel_rfl
theorem info28 : (Tryd.prog.info? 28).map (fun i => (i.zero, i.size, i.bytes)) = some (some (.slice none 0 0), 1, 24) := by kernel_rfl
theorem info97 : (Tryd.prog.info? 97).map (fun i => (i.zero, i.size, i.bytes)) = some (some (.agg #[(.int .i64 0), (.int .i64 0)]), 2, 16) := by kernel_rfl
theorem info107 : (Tryd.prog.info? 107).map (fun i => (i.zero, i.size, i.bytes)) = some (some (.agg #[(.int .i64 0), (.int .i64 0), (.int .i64 0), (.int .i64 0)]), 4, 32) := by kernel_rfl
-- the values' own types
/-! #### struct type 38 -/
structure S38 where
 f0 : Int
 f1 : Int
def z38 : S38 := ⟨(0 : Int), (0 : Int)⟩
def k38 : Kd S38 := Kd.iso (Kd.pair (Kd.int .i64) (Kd.int .i64)) (fun x : S38 => (x.f0, x.f1))
theorem k38_open {w : World} {x : S38} {cs : List Value} (h : k38.K w x cs) : cs = [.int .i64 x.f0, .int .i64 x.f1] := by
 obtain ⟨_, _, rfl, rfl, rfl⟩ := h; exact rfl
theorem k38_openM {w : World} {base : Nat} {ok : Nat → Prop} {x : S38} {cs : List Value} (h : k38.M w base ok x cs) : cs = [.int .i64 x.f0, .int .i64 x.f1] := by
 obtain ⟨_, _, rfl, rfl, rfl⟩ := h; exact rfl
theorem k38_mk (w : World) (x : S38)  : k38.K w x [.int .i64 x.f0, .int .i64 x.f1] := ⟨[.int .i64 x.f0], [.int .i64 x.f1], rfl, rfl, rfl⟩
theorem k38_mkM (w : World) (base : Nat) (ok : Nat → Prop) (x : S38)  : k38.M w base ok x [.int .i64 x.f0, .int .i64 x.f1] := ⟨[.int .i64 x.f0], [.int .i64 x.f1], rfl, rfl, rfl⟩
def rd_T38 (xs : List S38) (i : Int) : S38 := xs.getD i.toNat z38
theorem at_T38 {w : World} {A : Option Addr} {n : Nat} {xs : List S38} (h : Kd.C k38 w A n xs) (i : Int) (h0 : 0 ≤ i) (h1 : i < n) : ∃ ad , A = some ad ∧ w.cell? (ad.add (i.toNat * 2)) = some (.int .i64 (rd_T38 xs i).f0) ∧ w.cell? ⟨(ad.add (i.toNat * 2)).block, (ad.add (i.toNat * 2)).off + 1, none⟩ = some (.int .i64 (rd_T38 xs i).f1) := by
 obtain ⟨ad, c, e, _, hK, hc0⟩ := Kd.C_get h z38 i h0 h1; have hc : ∀ j u, c[j]? = some u → w.cell? (ad.add (i.toNat * 2 + j)) = some u := hc0; obtain rfl := k38_open hK; exact ⟨ad, e, hc 0 _ rfl, by rw [← add_field _ _ 1 (by omega)]; exact hc 1 _ rfl⟩

/-! #### struct type 97 -/
structure S97 where
 f0 : Int
 f1 : Int
def z97 : S97 := ⟨(0 : Int), (0 : Int)⟩
def k97 : Kd S97 := Kd.iso (Kd.pair (Kd.int .i64) (Kd.int .i64)) (fun x : S97 => (x.f0, x.f1))
theorem k97_open {w : World} {x : S97} {cs : List Value} (h : k97.K w x cs) : cs = [.int .i64 x.f0, .int .i64 x.f1] := by
 obtain ⟨_, _, rfl, rfl, rfl⟩ := h; exact rfl
theorem k97_openM {w : World} {base : Nat} {ok : Nat → Prop} {x : S97} {cs : List Value} (h : k97.M w base ok x cs) : cs = [.int .i64 x.f0, .int .i64 x.f1] := by
 obtain ⟨_, _, rfl, rfl, rfl⟩ := h; exact rfl
theorem k97_mk (w : World) (x : S97)  : k97.K w x [.int .i64 x.f0, .int .i64 x.f1] := ⟨[.int .i64 x.f0], [.int .i64 x.f1], rfl, rfl, rfl⟩
theorem k97_mkM (w : World) (base : Nat) (ok : Nat → Prop) (x : S97)  : k97.M w base ok x [.int .i64 x.f0, .int .i64 x.f1] := ⟨[.int .i64 x.f0], [.int .i64 x.f1], rfl, rfl, rfl⟩
def rd_T97 (xs : List S97) (i : Int) : S97 := xs.getD i.toNat z97
theorem at_T97 {w : World} {A : Option Addr} {n : Nat} {xs : List S97} (h : Kd.C k97 w A n xs) (i : Int) (h0 : 0 ≤ i) (h1 : i < n) : ∃ ad , A = some ad ∧ w.cell? (ad.add (i.toNat * 2)) = some (.int .i64 (rd_T97 xs i).f0) ∧ w.cell? ⟨(ad.add (i.toNat * 2)).block, (ad.add (i.toNat * 2)).off + 1, none⟩ = some (.int .i64 (rd_T97 xs i).f1) := by
 obtain ⟨ad, c, e, _, hK, hc0⟩ := Kd.C_get h z97 i h0 h1; have hc : ∀ j u, c[j]? = some u → w.cell? (ad.add (i.toNat * 2 + j)) = some u := hc0; obtain rfl := k97_open hK; exact ⟨ad, e, hc 0 _ rfl, by rw [← add_field _ _ 1 (by omega)]; exact hc 1 _ rfl⟩

/-! #### struct type 107 -/
structure S107 where
 f0 : S97
 f1 : S97
def z107 : S107 := ⟨z97, z97⟩
def k107 : Kd S107 := Kd.iso (Kd.pair k97 k97) (fun x : S107 => (x.f0, x.f1))
theorem k107_open {w : World} {x : S107} {cs : List Value} (h : k107.K w x cs) : cs = [.int .i64 x.f0.f0, .int .i64 x.f0.f1, .int .i64 x.f1.f0, .int .i64 x.f1.f1] := by
 obtain ⟨_, _, rfl, s0, s2⟩ := h; obtain rfl := k97_open s0; obtain rfl := k97_open s2; exact rfl
theorem k107_openM {w : World} {base : Nat} {ok : Nat → Prop} {x : S107} {cs : List Value} (h : k107.M w base ok x cs) : cs = [.int .i64 x.f0.f0, .int .i64 x.f0.f1, .int .i64 x.f1.f0, .int .i64 x.f1.f1] := by
 obtain ⟨_, _, rfl, s0, s2⟩ := h; obtain rfl := k97_openM s0; obtain rfl := k97_openM s2; exact rfl
theorem k107_mk (w : World) (x : S107)  : k107.K w x [.int .i64 x.f0.f0, .int .i64 x.f0.f1, .int .i64 x.f1.f0, .int .i64 x.f1.f1] := ⟨[.int .i64 x.f0.f0, .int .i64 x.f0.f1], [.int .i64 x.f1.f0, .int .i64 x.f1.f1], rfl, (k97_mk w x.f0 ), (k97_mk w x.f1 )⟩
theorem k107_mkM (w : World) (base : Nat) (ok : Nat → Prop) (x : S107)  : k107.M w base ok x [.int .i64 x.f0.f0, .int .i64 x.f0.f1, .int .i64 x.f1.f0, .int .i64 x.f1.f1] := ⟨[.int .i64 x.f0.f0, .int .i64 x.f0.f1], [.int .i64 x.f1.f0, .int .i64 x.f1.f1], rfl, (k97_mkM w base ok x.f0 ), (k97_mkM w base ok x.f1 )⟩
def rd_T107 (xs : List S107) (i : Int) : S107 := xs.getD i.toNat z107
theorem at_T107 {w : World} {A : Option Addr} {n : Nat} {xs : List S107} (h : Kd.C k107 w A n xs) (i : Int) (h0 : 0 ≤ i) (h1 : i < n) : ∃ ad , A = some ad ∧ w.cell? (ad.add (i.toNat * 4)) = some (.int .i64 (rd_T107 xs i).f0.f0) ∧ w.cell? ⟨(ad.add (i.toNat * 4)).block, (ad.add (i.toNat * 4)).off + 1, none⟩ = some (.int .i64 (rd_T107 xs i).f0.f1) ∧ w.cell? ⟨(ad.add (i.toNat * 4)).block, (ad.add (i.toNat * 4)).off + 2, none⟩ = some (.int .i64 (rd_T107 xs i).f1.f0) ∧ w.cell? ⟨(ad.add (i.toNat * 4)).block, (ad.add (i.toNat * 4)).off + 3, none⟩ = some (.int .i64 (rd_T107 xs i).f1.f1) := by
 obtain ⟨ad, c, e, _, hK, hc0⟩ := Kd.C_get h z107 i h0 h1; have hc : ∀ j u, c[j]? = some u → w.cell? (ad.add (i.toNat * 4 + j)) = some u := hc0; obtain rfl := k107_open hK; exact ⟨ad, e, hc 0 _ rfl, by rw [← add_field _ _ 1 (by omega)]; exact hc 1 _ rfl, by rw [← add_field _ _ 2 (by omega)]; exact hc 2 _ rfl, by rw [← add_field _ _ 3 (by omega)]; exact hc 3 _ rfl⟩

def rd_L6 (xs : List (List S97)) (i : Int) : (List S97) := xs.getD i.toNat ([] : List S97)
theorem at_L6 {w : World} {A : Option Addr} {n : Nat} {xs : List (List S97)} (h : Kd.C (Kd.slice 97 k97) w A n xs) (i : Int) (h0 : 0 ≤ i) (h1 : i < n) : ∃ ad A0 c0, A = some ad ∧ w.cell? (ad.add i.toNat) = some (.slice A0 (rd_L6 xs i).length c0) ∧ (rd_L6 xs i).length ≤ c0 ∧ k97.C w A0 (rd_L6 xs i).length (rd_L6 xs i) := by
 obtain ⟨ad, c, e, _, hK, hc0⟩ := Kd.C_get h ([] : List S97) i h0 h1; have hc : ∀ j u, c[j]? = some u → w.cell? (ad.add (i.toNat * 1 + j)) = some u := hc0; obtain ⟨A0, c0, rfl, l0, g0⟩ := hK; exact ⟨ad, A0, c0, e, by have hq := hc 0 _ rfl; rwa [Nat.mul_one, Nat.add_zero] at hq, l0, g0⟩

/-! #### struct type 114 -/
structure S114 where
 f0 : Int
 f1 : Int
def z114 : S114 := ⟨(0 : Int), (0 : Int)⟩
def k114 : Kd S114 := Kd.iso (Kd.pair (Kd.int .i64) (Kd.int .i64)) (fun x : S114 => (x.f0, x.f1))
theorem k114_open {w : World} {x : S114} {cs : List Value} (h : k114.K w x cs) : cs = [.int .i64 x.f0, .int .i64 x.f1] := by
 obtain ⟨_, _, rfl, rfl, rfl⟩ := h; exact rfl
theorem k114_openM {w : World} {base : Nat} {ok : Nat → Prop} {x : S114} {cs : List Value} (h : k114.M w base ok x cs) : cs = [.int .i64 x.f0, .int .i64 x.f1] := by
 obtain ⟨_, _, rfl, rfl, rfl⟩ := h; exact rfl
theorem k114_mk (w : World) (x : S114)  : k114.K w x [.int .i64 x.f0, .int .i64 x.f1] := ⟨[.int .i64 x.f0], [.int .i64 x.f1], rfl, rfl, rfl⟩
theorem k114_mkM (w : World) (base : Nat) (ok : Nat → Prop) (x : S114)  : k114.M w base ok x [.int .i64 x.f0, .int .i64 x.f1] := ⟨[.int .i64 x.f0], [.int .i64 x.f1], rfl, rfl, rfl⟩
def rd_T114 (xs : List S114) (i : Int) : S114 := xs.getD i.toNat z114
theorem at_T114 {w : World} {A : Option Addr} {n : Nat} {xs : List S114} (h : Kd.C k114 w A n xs) (i : Int) (h0 : 0 ≤ i) (h1 : i < n) : ∃ ad , A = some ad ∧ w.cell? (ad.add (i.toNat * 2)) = some (.int .i64 (rd_T114 xs i).f0) ∧ w.cell? ⟨(ad.add (i.toNat * 2)).block, (ad.add (i.toNat * 2)).off + 1, none⟩ = some (.int .i64 (rd_T114 xs i).f1) := by
 obtain ⟨ad, c, e, _, hK, hc0⟩ := Kd.C_get h z114 i h0 h1; have hc : ∀ j u, c[j]? = some u → w.cell? (ad.add (i.toNat * 2 + j)) = some u := hc0; obtain rfl := k114_open hK; exact ⟨ad, e, hc 0 _ rfl, by rw [← add_field _ _ 1 (by omega)]; exact hc 1 _ rfl⟩

def rd_L9 (xs : List (List ByteArray)) (i : Int) : (List ByteArray) := xs.getD i.toNat ([] : List ByteArray)
theorem at_L9 {w : World} {A : Option Addr} {n : Nat} {xs : List (List ByteArray)} (h : Kd.C (Kd.slice 9 Kd.string) w A n xs) (i : Int) (h0 : 0 ≤ i) (h1 : i < n) : ∃ ad A0 c0, A = some ad ∧ w.cell? (ad.add i.toNat) = some (.slice A0 (rd_L9 xs i).length c0) ∧ (rd_L9 xs i).length ≤ c0 ∧ Kd.string.C w A0 (rd_L9 xs i).length (rd_L9 xs i) := by
 obtain ⟨ad, c, e, _, hK, hc0⟩ := Kd.C_get h ([] : List ByteArray) i h0 h1; have hc : ∀ j u, c[j]? = some u → w.cell? (ad.add (i.toNat * 1 + j)) = some u := hc0; obtain ⟨A0, c0, rfl, l0, g0⟩ := hK; exact ⟨ad, A0, c0, e, by have hq := hc 0 _ rfl; rwa [Nat.mul_one, Nat.add_zero] at hq, l0, g0⟩

def rd_L10 (xs : List (List S114)) (i : Int) : (List S114) := xs.getD i.toNat ([] : List S114)
theorem at_L10 {w : World} {A : Option Addr} {n : Nat} {xs : List (List S114)} (h : Kd.C (Kd.slice 114 k114) w A n xs) (i : Int) (h0 : 0 ≤ i) (h1 : i < n) : ∃ ad A0 c0, A = some ad ∧ w.cell? (ad.add i.toNat) = some (.slice A0 (rd_L10 xs i).length c0) ∧ (rd_L10 xs i).length ≤ c0 ∧ k114.C w A0 (rd_L10 xs i).length (rd_L10 xs i) := by
 obtain ⟨ad, c, e, _, hK, hc0⟩ := Kd.C_get h ([] : List S114) i h0 h1; have hc : ∀ j u, c[j]? = some u → w.cell? (ad.add (i.toNat * 1 + j)) = some u := hc0; obtain ⟨A0, c0, rfl, l0, g0⟩ := hK; exact ⟨ad, A0, c0, e, by have hq := hc 0 _ rfl; rwa [Nat.mul_one, Nat.add_zero] at hq, l0, g0⟩

def rd_L11 (xs : List (List (List S97))) (i : Int) : (List (List S97)) := xs.getD i.toNat ([] : List (List S97))
theorem at_L11 {w : World} {A : Option Addr} {n : Nat} {xs : List (List (List S97))} (h : Kd.C (Kd.slice 28 (Kd.slice 97 k97)) w A n xs) (i : Int) (h0 : 0 ≤ i) (h1 : i < n) : ∃ ad A0 c0, A = some ad ∧ w.cell? (ad.add i.toNat) = some (.slice A0 (rd_L11 xs i).length c0) ∧ (rd_L11 xs i).length ≤ c0 ∧ (Kd.slice 97 k97).C w A0 (rd_L11 xs i).length (rd_L11 xs i) := by
 obtain ⟨ad, c, e, _, hK, hc0⟩ := Kd.C_get h ([] : List (List S97)) i h0 h1; have hc : ∀ j u, c[j]? = some u → w.cell? (ad.add (i.toNat * 1 + j)) = some u := hc0; obtain ⟨A0, c0, rfl, l0, g0⟩ := hK; exact ⟨ad, A0, c0, e, by have hq := hc 0 _ rfl; rwa [Nat.mul_one, Nat.add_zero] at hq, l0, g0⟩

/-! #### struct type 31 -/
structure S31 where
 f0 : (List S97)
 f1 : (List (List S97))
def z31 : S31 := ⟨([] : List S97), ([] : List (List S97))⟩
def k31 : Kd S31 := Kd.iso (Kd.pair (Kd.slice 97 k97) (Kd.slice 28 (Kd.slice 97 k97))) (fun x : S31 => (x.f0, x.f1))
theorem k31_open {w : World} {x : S31} {cs : List Value} (h : k31.K w x cs) : ∃ A0 c0 A1 c1, cs = [.slice A0 x.f0.length c0, .slice A1 x.f1.length c1] ∧ x.f0.length ≤ c0 ∧ k97.C w A0 x.f0.length x.f0 ∧ x.f1.length ≤ c1 ∧ (Kd.slice 97 k97).C w A1 x.f1.length x.f1 := by
 obtain ⟨_, _, rfl, ⟨A0, c0, rfl, l0, g0⟩, ⟨A1, c1, rfl, l1, g1⟩⟩ := h; exact ⟨A0, c0, A1, c1, rfl, l0, g0, l1, g1⟩
theorem k31_openM {w : World} {base : Nat} {ok : Nat → Prop} {x : S31} {cs : List Value} (h : k31.M w base ok x cs) : ∃ v0 v1, cs = [v0, v1] ∧ k97.R 97 w base ok v0 x.f0 ∧ (Kd.slice 97 k97).R 28 w base ok v1 x.f1 := by
 obtain ⟨_, _, rfl, ⟨v0, rfl, g0⟩, ⟨v1, rfl, g1⟩⟩ := h; exact ⟨v0, v1, rfl, g0, g1⟩
theorem k31_mk (w : World) (x : S31) {A0 : Option Addr} {c0 : Nat} (l0 : x.f0.length ≤ c0) (g0 : k97.C w A0 x.f0.length x.f0) {A1 : Option Addr} {c1 : Nat} (l1 : x.f1.length ≤ c1) (g1 : (Kd.slice 97 k97).C w A1 x.f1.length x.f1) : k31.K w x [.slice A0 x.f0.length c0, .slice A1 x.f1.length c1] := ⟨[.slice A0 x.f0.length c0], [.slice A1 x.f1.length c1], rfl, ⟨A0, c0, rfl, l0, g0⟩, ⟨A1, c1, rfl, l1, g1⟩⟩
theorem k31_mkM (w : World) (base : Nat) (ok : Nat → Prop) (x : S31) {v0 : Value} (g0 : k97.R 97 w base ok v0 x.f0) {v1 : Value} (g1 : (Kd.slice 97 k97).R 28 w base ok v1 x.f1) : k31.M w base ok x [v0, v1] := ⟨[v0], [v1], rfl, ⟨v0, rfl, g0⟩, ⟨v1, rfl, g1⟩⟩
def rd_T31 (xs : List S31) (i : Int) : S31 := xs.getD i.toNat z31
theorem at_T31 {w : World} {A : Option Addr} {n : Nat} {xs : List S31} (h : Kd.C k31 w A n xs) (i : Int) (h0 : 0 ≤ i) (h1 : i < n) : ∃ ad A0 c0 A1 c1, A = some ad ∧ w.cell? (ad.add (i.toNat * 2)) = some (.slice A0 (rd_T31 xs i).f0.length c0) ∧ w.cell? ⟨(ad.add (i.toNat * 2)).block, (ad.add (i.toNat * 2)).off + 1, none⟩ = some (.slice A1 (rd_T31 xs i).f1.length c1) ∧ (rd_T31 xs i).f0.length ≤ c0 ∧ k97.C w A0 (rd_T31 xs i).f0.length (rd_T31 xs i).f0 ∧ (rd_T31 xs i).f1.length ≤ c1 ∧ (Kd.slice 97 k97).C w A1 (rd_T31 xs i).f1.length (rd_T31 xs i).f1 := by
 obtain ⟨ad, c, e, _, hK, hc0⟩ := Kd.C_get h z31 i h0 h1; have hc : ∀ j u, c[j]? = some u → w.cell? (ad.add (i.toNat * 2 + j)) = some u := hc0; obtain ⟨A0, c0, A1, c1, rfl, l0, g0, l1, g1⟩ := k31_open hK; exact ⟨ad, A0, c0, A1, c1, e, hc 0 _ rfl, by rw [← add_field _ _ 1 (by omega)]; exact hc 1 _ rfl, l0, g0, l1, g1⟩

end Go.Proofs.YtddbahlofgkoaaaDoor.PA
namespace Go.Proofs.YtddbahlofgkoaaaDoor.PA
open Go.RowKit Go.Proofs.YtddbahlofgkoaaaDoorW.PrintWords Go.Proofs.YtddbahlofgkoaaaDoorW.PrintLast Go.Proofs.YtddbahlofgkoaaaDoorW.PrintMore
attribute [local go_sem] max2_int min2_int max_two min_two max_three min_three max_four min_four   -- for this text's walks alone
set_option linter.unusedVariables false
set_option linter.unusedSimpArgs false

/-! ### laws_szPtS: function 38 -/
def laws_szPtS.f (l0 : List (S114)) (a1 : Int) : Option (Int) := if (wrap64 (a1 - (l0.length : Int))) < 0 then (some (-1)) else (some (wrap64 (a1 - (l0.length : Int))))
set_option maxHeartbeats 8000000 in
set_option maxRecDepth 100000 in
theorem laws_szPtS.calls (A0 : Option Addr) (c0 : Nat) (l0 : List (S114)) (a1 : Int) (r : Int) (w : World) (hr0 : Kd.C k114 w A0 l0.length l0) (hc0 : l0.length ≤ c0) (h : laws_szPtS.f l0 a1 = some r) :
  Calls Tryd.prog 38 #[.slice A0 l0.length c0, .int .i64 a1] w fun e w' => e = .returned (.int .i64 r) ∧ Drawn0 w w' := by
 have HR0 := Aside0.mk hr0; have HC0 := Aside0.mk hc0; clear hr0 hc0; have H : (if (wrap64 (a1 - (l0.length : Int))) < 0 then (some (-1)) else (some (wrap64 (a1 - (l0.length : Int))))) = some r := h; clear h; by_cases c3 : (wrap64 (a1 - (l0.length : Int))) < 0
 ·rw [if_pos c3] at H; have c3b0 : decide ((wrap64 (a1 - (l0.length : Int))) < 0) = true := decide_eq_true c3; clear c3; obtain rfl := Option.some.inj H; go_enter Tryd.func38, Tryd.ntmps38
  go_wp2
  go_ret
  exact ⟨by first | rfl | (simp; done) | (simp [*]; done), by repeat (first | exact Drawn0.refl _ | apply Drawn0.step)⟩
 ·rw [if_neg c3] at H; have c3b0 : decide ((wrap64 (a1 - (l0.length : Int))) < 0) = false := decide_eq_false c3; clear c3; obtain rfl := Option.some.inj H; go_enter Tryd.func38, Tryd.ntmps38
  go_wp2
  go_ret
  exact ⟨by first | rfl | (simp; done) | (simp [*]; done), by repeat (first | exact Drawn0.refl _ | apply Drawn0.step)⟩

/-! ### laws_toPt: function 71 -/
def laws_toPt.f (a0_0 : Int) (a0_1 : Int) : Option (Int × Int) := some (a0_0, a0_1)
set_option maxHeartbeats 8000000 in
set_option maxRecDepth 100000 in
theorem laws_toPt.calls (a0_0 : Int) (a0_1 : Int) (r1 : Int) (r2 : Int) (w : World) (h : laws_toPt.f a0_0 a0_1 = some (r1, r2)) :
  Calls Tryd.prog 71 #[.agg #[.int .i64 a0_0, .int .i64 a0_1]] w fun e w' => e = .returned (.agg #[.int .i64 r1, .int .i64 r2]) ∧ Below w.heap.size w w' := by
 have hu114 := Tryd.underlying114; have hu97 := Tryd.underlying97; have HB := Aside0.mk (Below.refl w.heap.size w); have H : (some (a0_0, a0_1)) = some (r1, r2) := h; clear h; simp only [Option.some.injEq, Prod.mk.injEq] at H; obtain ⟨rfl, rfl⟩ := H; go_enter Tryd.func71, Tryd.ntmps71
 go_wp2_with (first | ((with_reducible refine gate_dst (N := 1) rfl ?_); refine box_event ?hg (N := 1) ?hd (cs := #[.int .i64 a0_0, .int .i64 a0_1]) (t := 114) ?hr ?_; (case hd => rfl); (case hg => rfl); (case hr => first | (go_simp; done) | (go_simp; rfl)); intro gb282 hg w2 hbox hb; have n0_ := Aside0.mk (below_step (by repeat (first | (with_reducible first | exact HB.out | apply below_alloc | apply pw_below_drewN | apply below_drew1) | exact HB.out)) hb); have n1_ := Aside0.mk (hbox); have n2_ := Aside0.mk ((by rw [hg]; exact (below_size (by repeat (first | (with_reducible first | exact HB.out | apply below_alloc | apply pw_below_drewN | apply below_drew1) | exact HB.out))) : w.heap.size ≤ gb282)); have n3_ := Aside0.mk ((by rw [hg]; exact (below_size (by repeat (first | (with_reducible first | exact HB.out | apply below_alloc | apply pw_below_drewN | apply below_drew1) | exact HB.out))) : w.heap.size ≤ gb282)); clear HB; have HB := n0_; have BK282 := n1_; have GW282 := n2_; have GE282 := n3_; clear n0_ n1_ n2_ n3_; clear hb hbox hg) | ((with_reducible refine gate_dst (N := 2) rfl ?_); refine box_event ?hg (N := 2) ?hd (cs := #[.int .i64 0, .int .i64 0]) (t := 97) ?hr ?_; (case hd => rfl); (case hg => rfl); (case hr => first | (go_simp; done) | (go_simp; rfl)); intro gb283 hg w3 hbox hb; have n0_ := Aside0.mk (blk_below (g := gb282) (o := .cells #[.int .i64 a0_0, .int .i64 a0_1] 114 (0, 0)) (by (with_reducible repeat (first | refine blk_drewN ?_ _ | refine blk_drew ?_ | refine blk_alloc ?_ _)); exact BK282.out) hb); have n1_ := Aside0.mk (below_step (by repeat (first | (with_reducible first | exact HB.out | apply below_alloc | apply pw_below_drewN | apply below_drew1 | refine below_set ?_ GE282.out) | exact HB.out)) hb); have n2_ := Aside0.mk (hbox); have n3_ := Aside0.mk ((by rw [hg]; exact (below_size (by repeat (first | (with_reducible first | exact HB.out | apply below_alloc | apply pw_below_drewN | apply below_drew1 | refine below_set ?_ GE282.out) | exact HB.out))) : w.heap.size ≤ gb283)); have n4_ := Aside0.mk ((by rw [hg]; exact (below_size (by repeat (first | (with_reducible first | exact HB.out | apply below_alloc | apply pw_below_drewN | apply below_drew1 | refine below_set ?_ GE282.out) | exact HB.out))) : w.heap.size ≤ gb283)); have n5_ := Aside0.mk ((by rw [hg]; exact Nat.ne_of_lt (blk_lt (g := gb282) (o := .cells #[.int .i64 a0_0, .int .i64 a0_1] 114 (0, 0)) (by (with_reducible repeat (first | refine blk_drewN ?_ _ | refine blk_drew ?_ | refine blk_alloc ?_ _)); exact BK282.out)) : gb282 ≠ gb283)); have n6_ := Aside0.mk ((by rw [hg]; exact Nat.ne_of_gt (blk_lt (g := gb282) (o := .cells #[.int .i64 a0_0, .int .i64 a0_1] 114 (0, 0)) (by (with_reducible repeat (first | refine blk_drewN ?_ _ | refine blk_drew ?_ | refine blk_alloc ?_ _)); exact BK282.out)) : gb283 ≠ gb282)); clear BK282; clear HB; have BK282 := n0_; have HB := n1_; have BK283 := n2_; have GW283 := n3_; have GE283 := n4_; have NB282_283 := n5_; have NB283_282 := n6_; clear n0_ n1_ n2_ n3_ n4_ n5_ n6_; clear hb hbox hg) | ((with_reducible refine gate_dst (N := 3) rfl ?_); refine box_event ?hg (N := 3) ?hd (cs := #[.int .i64 0, .int .i64 0]) (t := 97) ?hr ?_; (case hd => rfl); (case hg => rfl); (case hr => first | (go_simp; done) | (go_simp; rfl)); intro gb284 hg w4 hbox hb; have n0_ := Aside0.mk (blk_below (g := gb282) (o := .cells #[.int .i64 a0_0, .int .i64 a0_1] 114 (0, 0)) (by (with_reducible repeat (first | refine blk_drewN ?_ _ | refine blk_drew ?_ | refine blk_alloc ?_ _)); exact BK282.out) hb); have n1_ := Aside0.mk (blk_below (g := gb283) (o := .cells #[.int .i64 0, .int .i64 0] 97 (0, 0)) (by (with_reducible repeat (first | refine blk_drewN ?_ _ | refine blk_drew ?_ | refine blk_alloc ?_ _)); exact BK283.out) hb); have n2_ := Aside0.mk (below_step (by repeat (first | (with_reducible first | exact HB.out | apply below_alloc | apply pw_below_drewN | apply below_drew1 | refine below_set ?_ GE282.out | refine below_set ?_ GE283.out) | exact HB.out)) hb); have n3_ := Aside0.mk (hbox); have n4_ := Aside0.mk ((by rw [hg]; exact (below_size (by repeat (first | (with_reducible first | exact HB.out | apply below_alloc | apply pw_below_drewN | apply below_drew1 | refine below_set ?_ GE282.out | refine below_set ?_ GE283.out) | exact HB.out))) : w.heap.size ≤ gb284)); have n5_ := Aside0.mk ((by rw [hg]; exact (below_size (by repeat (first | (with_reducible first | exact HB.out | apply below_alloc | apply pw_below_drewN | apply below_drew1 | refine below_set ?_ GE282.out | refine below_set ?_ GE283.out) | exact HB.out))) : w.heap.size ≤ gb284)); have n6_ := Aside0.mk ((by rw [hg]; exact Nat.ne_of_lt (blk_lt (g := gb282) (o := .cells #[.int .i64 a0_0, .int .i64 a0_1] 114 (0, 0)) (by (with_reducible repeat (first | refine blk_drewN ?_ _ | refine blk_drew ?_ | refine blk_alloc ?_ _)); exact BK282.out)) : gb282 ≠ gb284)); have n7_ := Aside0.mk ((by rw [hg]; exact Nat.ne_of_gt (blk_lt (g := gb282) (o := .cells #[.int .i64 a0_0, .int .i64 a0_1] 114 (0, 0)) (by (with_reducible repeat (first | refine blk_drewN ?_ _ | refine blk_drew ?_ | refine blk_alloc ?_ _)); exact BK282.out)) : gb284 ≠ gb282)); have n8_ := Aside0.mk ((by rw [hg]; exact Nat.ne_of_lt (blk_lt (g := gb283) (o := .cells #[.int .i64 0, .int .i64 0] 97 (0, 0)) (by (with_reducible repeat (first | refine blk_drewN ?_ _ | refine blk_drew ?_ | refine blk_alloc ?_ _)); exact BK283.out)) : gb283 ≠ gb284)); have n9_ := Aside0.mk ((by rw [hg]; exact Nat.ne_of_gt (blk_lt (g := gb283) (o := .cells #[.int .i64 0, .int .i64 0] 97 (0, 0)) (by (with_reducible repeat (first | refine blk_drewN ?_ _ | refine blk_drew ?_ | refine blk_alloc ?_ _)); exact BK283.out)) : gb284 ≠ gb283)); clear BK282; clear BK283; clear HB; have BK282 := n0_; have BK283 := n1_; have HB := n2_; have BK284 := n3_; have GW284 := n4_; have GE284 := n5_; have NB282_284 := n6_; have NB284_282 := n7_; have NB283_284 := n8_; have NB284_283 := n9_; clear n0_ n1_ n2_ n3_ n4_ n5_ n6_ n7_ n8_ n9_; clear hb hbox hg; have hnb5 := NB282_283.out; have hnc5 := NB283_282.out; have hnb6 := NB282_284.out; have hnc6 := NB284_282.out; have hcz7_0 : w4.cell? ⟨gb282, 0, none⟩ = some (.int .i64 a0_0) := (blk_cell BK282.out 0).trans rfl; have hcz7_1 : w4.cell? ⟨gb282, 1, none⟩ = some (.int .i64 a0_1) := (blk_cell BK282.out 1).trans rfl; have hfz7_0 := blk_frozen BK282.out 0; have hfz7_1 := blk_frozen BK282.out 1; have hnb8 := NB284_283.out; have hnc8 := NB283_284.out; have hcz9_0 : w4.cell? ⟨gb284, 0, none⟩ = some (.int .i64 0) := (blk_cell BK284.out 0).trans rfl; have hcz9_1 : w4.cell? ⟨gb284, 1, none⟩ = some (.int .i64 0) := (blk_cell BK284.out 1).trans rfl; have hfz9_0 := blk_frozen BK284.out 0; have hfz9_1 := blk_frozen BK284.out 1; have hcz10_0 : w4.cell? ⟨gb283, 0, none⟩ = some (.int .i64 0) := (blk_cell BK283.out 0).trans rfl; have hcz10_1 : w4.cell? ⟨gb283, 1, none⟩ = some (.int .i64 0) := (blk_cell BK283.out 1).trans rfl; have hfz10_0 := blk_frozen BK283.out 0; have hfz10_1 := blk_frozen BK283.out 1))
 refine bodyPost_ret (results_cell_row rfl _ _ gb283 97 #[.int .i64 a0_0, .int .i64 a0_1] (0, 0) _ rfl (by (with_reducible repeat (first | refine blk_drewN ?_ _ | refine blk_drew ?_ | refine blk_alloc ?_ _)); refine blk_put (cs := #[.int .i64 a0_0, .int .i64 0]) ?_ 1 _ rfl; (with_reducible repeat (first | refine blk_drewN ?_ _ | refine blk_drew ?_ | refine blk_alloc ?_ _)); refine blk_put (cs := #[.int .i64 0, .int .i64 0]) ?_ 0 _ rfl; (with_reducible repeat (first | refine blk_drewN ?_ _ | refine blk_drew ?_ | refine blk_alloc ?_ _)); refine blk_far ?_ NB283_284.out _; (with_reducible repeat (first | refine blk_drewN ?_ _ | refine blk_drew ?_ | refine blk_alloc ?_ _)); refine blk_far ?_ NB283_284.out _; (with_reducible repeat (first | refine blk_drewN ?_ _ | refine blk_drew ?_ | refine blk_alloc ?_ _)); exact BK283.out) Tryd.underlying97 rfl (by kernel_rfl)) rfl ?_; exact ⟨by first | rfl | (simp [errW_none, errW_some] <;> rfl) | (simp [*, errW_none, errW_some] <;> rfl), by repeat (first | (with_reducible first | exact HB.out | apply below_alloc | apply pw_below_drewN | apply below_drew1 | refine below_set ?_ GE282.out | refine below_set ?_ GE283.out | refine below_set ?_ GE284.out) | exact HB.out)⟩

end Go.Proofs.YtddbahlofgkoaaaDoor.PA
namespace Go.Proofs.YtddbahlofgkoaaaDoor.PA
open Go.RowKit Go.Proofs.YtddbahlofgkoaaaDoorW.PrintWords Go.Proofs.YtddbahlofgkoaaaDoorW.PrintLast Go.Proofs.YtddbahlofgkoaaaDoorW.PrintMore
attribute [local go_sem] max2_int min2_int max_two min_two max_three min_three max_four min_four   -- for this text's walks alone
set_option linter.unusedVariables false
set_option linter.unusedSimpArgs false

/-! ### laws_szPtSS: function 40 -/
def laws_szPtSS.l0 : Nat → List (List (S114)) → Int → Int → Option (Int)
 | 0, _, _, _ => none
 | k + 1, x0, x1, x5 => if x5 < (x0.length : Int) then (if 0 ≤ x5 then ((laws_szPtS.f (rd_L10 x0 x5) x1).bind fun t510 => (if t510 < 0 then (some (-1)) else (laws_szPtSS.l0 k x0 t510 (wrap64 (x5 + 1))))) else (none)) else (some x1)
def laws_szPtSS.f (k : Nat) (l0 : List (List (S114))) (a1 : Int) : Option (Int) := if (wrap64 (a1 - (l0.length : Int))) < 0 then (some (-1)) else (laws_szPtSS.l0 k l0 (wrap64 (a1 - (l0.length : Int))) 0)
theorem laws_szPtSS.mono_l : ∀ k, (∀ y0 y1 y2, LeO (laws_szPtSS.l0 k y0 y1 y2) (laws_szPtSS.l0 (k + 1) y0 y1 y2))
 | 0 => fun _ _ _ r h => by simp [laws_szPtSS.l0] at h
 | k + 1 => by
  have ih0 := laws_szPtSS.mono_l k
  ·intro y0 y1 y2; unfold laws_szPtSS.l0; repeat' first
   | (with_reducible exact ih0 _ _ _)
   | (with_reducible exact LeO.refl _)
   | (with_reducible exact LeO.none _)
   | (with_reducible refine LeO.ite ?_ ?_)
   | (with_reducible refine LeO.bind ?_ (fun _ => ?_))
   | exact ih0 _ _ _
   | exact LeO.none _
   | refine LeO.ite ?_ ?_
   | refine LeO.bind ?_ (fun _ => ?_)
theorem laws_szPtSS.mono : ∀ a0 a1 k, LeO (laws_szPtSS.f k a0 a1) (laws_szPtSS.f (k + 1) a0 a1) := by
 intro a0 a1 k; have ih0 := laws_szPtSS.mono_l k; unfold laws_szPtSS.f; repeat' first
   | (with_reducible exact ih0 _ _ _)
   | (with_reducible exact LeO.refl _)
   | (with_reducible exact LeO.none _)
   | (with_reducible refine LeO.ite ?_ ?_)
   | (with_reducible refine LeO.bind ?_ (fun _ => ?_))
   | exact ih0 _ _ _
   | exact LeO.none _
   | refine LeO.ite ?_ ?_
   | refine LeO.bind ?_ (fun _ => ?_)
set_option maxHeartbeats 8000000 in
set_option maxRecDepth 100000 in
theorem laws_szPtSS.calls (k : Nat) (A0 : Option Addr) (c0 : Nat) (l0 : List (List (S114))) (a1 : Int) (r : Int) (w : World) (hr0 : Kd.C (Kd.slice 114 k114) w A0 l0.length l0) (hc0 : l0.length ≤ c0) (h : laws_szPtSS.f k l0 a1 = some r) :
  Calls Tryd.prog 40 #[.slice A0 l0.length c0, .int .i64 a1] w fun e w' => e = .returned (.int .i64 r) ∧ Drawn0 w w' := by
 have HR0 := Aside0.mk hr0; have HC0 := Aside0.mk hc0; clear hr0 hc0; have H : (if (wrap64 (a1 - (l0.length : Int))) < 0 then (some (-1)) else (laws_szPtSS.l0 k l0 (wrap64 (a1 - (l0.length : Int))) 0)) = some r := h; clear h; by_cases c3 : (wrap64 (a1 - (l0.length : Int))) < 0
 ·rw [if_pos c3] at H; have c3b0 : decide ((wrap64 (a1 - (l0.length : Int))) < 0) = true := decide_eq_true c3; clear c3; obtain rfl := Option.some.inj H; go_enter Tryd.func40, Tryd.ntmps40
  go_wp2
  go_ret
  exact ⟨by first | rfl | (simp; done) | (simp [*]; done), by repeat (first | exact Drawn0.refl _ | apply Drawn0.step)⟩
 ·rw [if_neg c3] at H; have c3b0 : decide ((wrap64 (a1 - (l0.length : Int))) < 0) = false := decide_eq_false c3; clear c3; have H' := Aside0.mk H; clear H; go_enter Tryd.func40, Tryd.ntmps40
  go_wp2
  go_loopg [1, 5] k (fun kq v1 v5 w' => ∃ (x1_1 : Int) (x5_1 : Int), v1 = .int .i64 x1_1 ∧ v5 = .int .i64 x5_1 ∧ Aside0 (laws_szPtSS.l0 kq l0 x1_1 x5_1 = some r) ∧ Aside0 (kq ≤ k) ∧ Drawn0 w w')
  case atStart => exact ⟨(wrap64 (a1 - (l0.length : Int))), (0), (by first | rfl | (simp; done) | (simp [*]; done)), (by first | rfl | (simp; done) | (simp [*]; done)), H', ⟨Nat.le_refl _⟩, by repeat (first | exact Drawn0.refl _ | apply Drawn0.step)⟩
  case round =>
   clear H'; try clear p2
   try clear c3
   try clear c3b0
   obtain ⟨x1_1, x5_1, rfl, rfl, HA, HK1, ⟨m1, rfl⟩⟩ := hrel; cases gk with
   | zero => exact absurd HA.out (by simp [laws_szPtSS.l0])
   | succ k1 =>
    have H := HA.out; clear HA; simp only [laws_szPtSS.l0] at H; by_cases c4 : x5_1 < (l0.length : Int)
    ·rw [if_pos c4] at H; have c4b0 : decide (x5_1 < (l0.length : Int)) = true := decide_eq_true c4; clear c4; by_cases c5 : 0 ≤ x5_1
     ·rw [if_pos c5] at H; have c5b0 : decide (0 ≤ x5_1) = true := decide_eq_true c5; clear c5; replace H := Option.bind_eq_some_iff.mp H; obtain ⟨t510, A60, H⟩ := H; replace H : (if t510 < 0 then (some (-1)) else (laws_szPtSS.l0 k1 l0 t510 (wrap64 (x5_1 + 1)))) = some r := H; have A6 := Aside0.mk A60; clear A60; by_cases c7 : t510 < 0
      ·rw [if_pos c7] at H; have c7b0 : decide (t510 < 0) = true := decide_eq_true c7; clear c7; obtain rfl := Option.some.inj H; have p509 : 0 ≤ (x5_1 : Int) := of_decide_eq_true (by first | (with_reducible assumption) | assumption); have q509 : x5_1 < (l0.length : Int) := of_decide_eq_true (by first | (with_reducible assumption) | assumption); obtain ⟨ad509, A509_0, c509_0, e509, hx509_0, hl509_0, hi509_0⟩ := at_L10 HR0.out x5_1 p509 q509; cases e509; have HR509_0 := Aside0.mk hi509_0; have HC509_0 := Aside0.mk hl509_0; clear hi509_0 hl509_0; replace p509 := eq_true p509; replace q509 := eq_true q509; go_wp2_with (first | ((with_reducible refine gate_callee (f := 38) rfl ?_); refine goesL_ (some 23) rfl rfl Tryd.func38 (by kernel_rfl) rfl #[.slice A509_0 (rd_L10 l0 x5_1).length c509_0, .int .i64 x1_1] rfl (by (try simp only [List.map_toArray, List.map_cons, List.map_nil]); first | done | rfl | (simp only [List.length_drop, List.length_take]; rfl)) ?_; (with_reducible refine (laws_szPtS.calls _ _ (rd_L10 l0 x5_1) x1_1 t510 _ ?side1 ?side2 A6.out).mono ?_); (case side1 => repeat (first | exact HR509_0.out | (with_reducible refine Kd.C_alloc ?_ _) | (with_reducible refine Kd.C_drewN ?_ _) | (with_reducible refine Kd.C_drew ?_))); (case side2 => exact HC509_0.out); rintro e w' ⟨rfl, ⟨nd, rfl⟩⟩; refine ⟨_, rfl, ?_⟩))
       go_ret
       exact ⟨by first | rfl | (simp; done) | (simp [*]; done), by repeat (first | exact Drawn0.refl _ | apply Drawn0.step)⟩
      ·rw [if_neg c7] at H; have c7b0 : decide (t510 < 0) = false := decide_eq_false c7; clear c7; have H' := Aside0.mk H; clear H; have p509 : 0 ≤ (x5_1 : Int) := of_decide_eq_true (by first | (with_reducible assumption) | assumption); have q509 : x5_1 < (l0.length : Int) := of_decide_eq_true (by first | (with_reducible assumption) | assumption); obtain ⟨ad509, A509_0, c509_0, e509, hx509_0, hl509_0, hi509_0⟩ := at_L10 HR0.out x5_1 p509 q509; cases e509; have HR509_0 := Aside0.mk hi509_0; have HC509_0 := Aside0.mk hl509_0; clear hi509_0 hl509_0; replace p509 := eq_true p509; replace q509 := eq_true q509; go_wp2_with (first | ((with_reducible refine gate_callee (f := 38) rfl ?_); refine goesL_ (some 23) rfl rfl Tryd.func38 (by kernel_rfl) rfl #[.slice A509_0 (rd_L10 l0 x5_1).length c509_0, .int .i64 x1_1] rfl (by (try simp only [List.map_toArray, List.map_cons, List.map_nil]); first | done | rfl | (simp only [List.length_drop, List.length_take]; rfl)) ?_; (with_reducible refine (laws_szPtS.calls _ _ (rd_L10 l0 x5_1) x1_1 t510 _ ?side1 ?side2 A6.out).mono ?_); (case side1 => repeat (first | exact HR509_0.out | (with_reducible refine Kd.C_alloc ?_ _) | (with_reducible refine Kd.C_drewN ?_ _) | (with_reducible refine Kd.C_drew ?_))); (case side2 => exact HC509_0.out); rintro e w' ⟨rfl, ⟨nd, rfl⟩⟩; refine ⟨_, rfl, ?_⟩))
       go_roundg k1
       case measure => have := HK1.out; omega
       case rel => exact ⟨(t510), (wrap64 (x5_1 + 1)), (by first | rfl | (simp; done) | (simp [*]; done)), (by first | rfl | (simp; done) | (simp [*]; done)), H', ⟨by have := HK1.out; omega⟩, by repeat (first | exact Drawn0.refl _ | apply Drawn0.step)⟩
     ·rw [if_neg c5] at H; exact absurd H (by simp)
    ·rw [if_neg c4] at H; have c4b0 : decide (x5_1 < (l0.length : Int)) = false := decide_eq_false c4; clear c4; obtain rfl := Option.some.inj H; go_wp2
     go_ret
     exact ⟨by first | rfl | (simp; done) | (simp [*]; done), by repeat (first | exact Drawn0.refl _ | apply Drawn0.step)⟩

end Go.Proofs.YtddbahlofgkoaaaDoor.PA
namespace Go.Proofs.YtddbahlofgkoaaaDoor.PA
open Go.RowKit Go.Proofs.YtddbahlofgkoaaaDoorW.PrintWords Go.Proofs.YtddbahlofgkoaaaDoorW.PrintLast Go.Proofs.YtddbahlofgkoaaaDoorW.PrintMore
attribute [local go_sem] max2_int min2_int max_two min_two max_three min_three max_four min_four   -- for this text's walks alone
set_option linter.unusedVariables false
set_option linter.unusedSimpArgs false

/-! ### laws_szPlate: function 12 -/
def laws_szPlate.f (k : Nat) (l0_0 : List (S114)) (l0_1 : List (List (S114))) (a1 : Int) : Option (Int) := (laws_szPtS.f l0_0 a1).bind fun t512 => (if t512 < 0 then (some (-1)) else ((laws_szPtSS.f k l0_1 t512).bind fun t513 => (if t513 < 0 then (some (-1)) else (some t513))))
theorem laws_szPlate.mono : ∀ a0 a1 a2 k, LeO (laws_szPlate.f k a0 a1 a2) (laws_szPlate.f (k + 1) a0 a1 a2) := by
 intro a0 a1 a2 k; unfold laws_szPlate.f; repeat' first
   | (with_reducible exact laws_szPtSS.mono _ _ _)
   | (with_reducible exact LeO.refl _)
   | (with_reducible exact LeO.none _)
   | (with_reducible refine LeO.ite ?_ ?_)
   | (with_reducible refine LeO.bind ?_ (fun _ => ?_))
   | exact laws_szPtSS.mono _ _ _
   | exact LeO.none _
   | refine LeO.ite ?_ ?_
   | refine LeO.bind ?_ (fun _ => ?_)
set_option maxHeartbeats 8000000 in
set_option maxRecDepth 100000 in
theorem laws_szPlate.calls (k : Nat) (A0_0 : Option Addr) (c0_0 : Nat) (l0_0 : List (S114)) (A0_1 : Option Addr) (c0_1 : Nat) (l0_1 : List (List (S114))) (a1 : Int) (r : Int) (w : World) (hr0_0 : Kd.C k114 w A0_0 l0_0.length l0_0) (hc0_0 : l0_0.length ≤ c0_0) (hr0_1 : Kd.C (Kd.slice 114 k114) w A0_1 l0_1.length l0_1) (hc0_1 : l0_1.length ≤ c0_1) (h : laws_szPlate.f k l0_0 l0_1 a1 = some r) :
  Calls Tryd.prog 12 #[.agg #[.slice A0_0 l0_0.length c0_0, .slice A0_1 l0_1.length c0_1], .int .i64 a1] w fun e w' => e = .returned (.int .i64 r) ∧ Below w.heap.size w w' := by
 have hu25 := Tryd.underlying25; have HR0_0 := Aside0.mk hr0_0; have HC0_0 := Aside0.mk hc0_0; clear hr0_0 hc0_0; have HR0_1 := Aside0.mk hr0_1; have HC0_1 := Aside0.mk hc0_1; clear hr0_1 hc0_1; have HB := Aside0.mk (Below.refl w.heap.size w); have H : ((laws_szPtS.f l0_0 a1).bind fun t512 => (if t512 < 0 then (some (-1)) else ((laws_szPtSS.f k l0_1 t512).bind fun t513 => (if t513 < 0 then (some (-1)) else (some t513))))) = some r := h; clear h; replace H := Option.bind_eq_some_iff.mp H; obtain ⟨t512, A30, H⟩ := H; replace H : (if t512 < 0 then (some (-1)) else ((laws_szPtSS.f k l0_1 t512).bind fun t513 => (if t513 < 0 then (some (-1)) else (some t513)))) = some r := H; have A3 := Aside0.mk A30; clear A30; by_cases c4 : t512 < 0
 ·rw [if_pos c4] at H; have c4b0 : decide (t512 < 0) = true := decide_eq_true c4; clear c4; obtain rfl := Option.some.inj H; go_enter Tryd.func12, Tryd.ntmps12
  go_wp2_with (first | ((with_reducible refine gate_dst (N := 2) rfl ?_); refine box_event ?hg (N := 2) ?hd (cs := #[.slice A0_0 l0_0.length c0_0, .slice A0_1 l0_1.length c0_1]) (t := 25) ?hr ?_; (case hd => rfl); (case hg => rfl); (case hr => first | (go_simp; done) | (go_simp; rfl)); intro gb511 hg w5 hbox hb; have n0_ := Aside0.mk (below_step (by repeat (first | (with_reducible first | exact HB.out | apply below_alloc | apply pw_below_drewN | apply below_drew1) | exact HB.out)) hb); have n1_ := Aside0.mk (hbox); have n2_ := Aside0.mk ((by rw [hg]; exact (below_size (by repeat (first | (with_reducible first | exact HB.out | apply below_alloc | apply pw_below_drewN | apply below_drew1) | exact HB.out))) : w.heap.size ≤ gb511)); have n3_ := Aside0.mk ((by rw [hg]; exact (below_size (by repeat (first | (with_reducible first | exact HB.out | apply below_alloc | apply pw_below_drewN | apply below_drew1) | exact HB.out))) : w.heap.size ≤ gb511)); clear HB; have HB := n0_; have BK511 := n1_; have GW511 := n2_; have GE511 := n3_; clear n0_ n1_ n2_ n3_; clear hb hbox hg; have hcz6_0 : w5.cell? ⟨gb511, 0, none⟩ = some (.slice A0_0 l0_0.length c0_0) := (blk_cell BK511.out 0).trans rfl; have hcz6_1 : w5.cell? ⟨gb511, 1, none⟩ = some (.slice A0_1 l0_1.length c0_1) := (blk_cell BK511.out 1).trans rfl; have hfz6_0 := blk_frozen BK511.out 0; have hfz6_1 := blk_frozen BK511.out 1) | ((with_reducible refine gate_callee (f := 38) rfl ?_); refine goesL_ (some 8) rfl rfl Tryd.func38 (by kernel_rfl) rfl #[.slice A0_0 l0_0.length c0_0, .int .i64 a1] rfl (by (try simp only [List.map_toArray, List.map_cons, List.map_nil]); first | done | rfl | (simp only [List.length_drop, List.length_take]; rfl)) ?_; (with_reducible refine (laws_szPtS.calls _ _ l0_0 a1 t512 _ ?side1 ?side2 A3.out).mono ?_); (case side1 => repeat (first | exact (Kd.C_below HR0_0.out HB.out) | (with_reducible refine Kd.C_alloc ?_ _) | (with_reducible refine Kd.C_drewN ?_ _) | (with_reducible refine Kd.C_drew ?_))); (case side2 => exact HC0_0.out); rintro e w' ⟨rfl, ⟨nd, rfl⟩⟩; refine ⟨_, rfl, ?_⟩))
  go_ret
  exact ⟨by first | rfl | (simp [errW_none, errW_some] <;> rfl) | (simp [*, errW_none, errW_some] <;> rfl), by repeat (first | (with_reducible first | exact HB.out | apply below_alloc | apply pw_below_drewN | apply below_drew1 | refine below_set ?_ GE511.out) | exact HB.out)⟩
 ·rw [if_neg c4] at H; have c4b0 : decide (t512 < 0) = false := decide_eq_false c4; clear c4; replace H := Option.bind_eq_some_iff.mp H; obtain ⟨t513, A70, H⟩ := H; replace H : (if t513 < 0 then (some (-1)) else (some t513)) = some r := H; have A7 := Aside0.mk A70; clear A70; by_cases c8 : t513 < 0
  ·rw [if_pos c8] at H; have c8b0 : decide (t513 < 0) = true := decide_eq_true c8; clear c8; obtain rfl := Option.some.inj H; go_enter Tryd.func12, Tryd.ntmps12
   go_wp2_with (first | ((with_reducible refine gate_dst (N := 2) rfl ?_); refine box_event ?hg (N := 2) ?hd (cs := #[.slice A0_0 l0_0.length c0_0, .slice A0_1 l0_1.length c0_1]) (t := 25) ?hr ?_; (case hd => rfl); (case hg => rfl); (case hr => first | (go_simp; done) | (go_simp; rfl)); intro gb511 hg w9 hbox hb; have n0_ := Aside0.mk (below_step (by repeat (first | (with_reducible first | exact HB.out | apply below_alloc | apply pw_below_drewN | apply below_drew1) | exact HB.out)) hb); have n1_ := Aside0.mk (hbox); have n2_ := Aside0.mk ((by rw [hg]; exact (below_size (by repeat (first | (with_reducible first | exact HB.out | apply below_alloc | apply pw_below_drewN | apply below_drew1) | exact HB.out))) : w.heap.size ≤ gb511)); have n3_ := Aside0.mk ((by rw [hg]; exact (below_size (by repeat (first | (with_reducible first | exact HB.out | apply below_alloc | apply pw_below_drewN | apply below_drew1) | exact HB.out))) : w.heap.size ≤ gb511)); clear HB; have HB := n0_; have BK511 := n1_; have GW511 := n2_; have GE511 := n3_; clear n0_ n1_ n2_ n3_; clear hb hbox hg; have hcz10_0 : w9.cell? ⟨gb511, 0, none⟩ = some (.slice A0_0 l0_0.length c0_0) := (blk_cell BK511.out 0).trans rfl; have hcz10_1 : w9.cell? ⟨gb511, 1, none⟩ = some (.slice A0_1 l0_1.length c0_1) := (blk_cell BK511.out 1).trans rfl; have hfz10_0 := blk_frozen BK511.out 0; have hfz10_1 := blk_frozen BK511.out 1) | ((with_reducible refine gate_callee (f := 38) rfl ?_); refine goesL_ (some 8) rfl rfl Tryd.func38 (by kernel_rfl) rfl #[.slice A0_0 l0_0.length c0_0, .int .i64 a1] rfl (by (try simp only [List.map_toArray, List.map_cons, List.map_nil]); first | done | rfl | (simp only [List.length_drop, List.length_take]; rfl)) ?_; (with_reducible refine (laws_szPtS.calls _ _ l0_0 a1 t512 _ ?side1 ?side2 A3.out).mono ?_); (case side1 => repeat (first | exact (Kd.C_below HR0_0.out HB.out) | (with_reducible refine Kd.C_alloc ?_ _) | (with_reducible refine Kd.C_drewN ?_ _) | (with_reducible refine Kd.C_drew ?_))); (case side2 => exact HC0_0.out); rintro e w' ⟨rfl, ⟨nd, rfl⟩⟩; refine ⟨_, rfl, ?_⟩) | ((with_reducible refine gate_callee (f := 40) rfl ?_); refine goesL_ (some 14) rfl rfl Tryd.func40 (by kernel_rfl) rfl #[.slice A0_1 l0_1.length c0_1, .int .i64 t512] rfl (by (try simp only [List.map_toArray, List.map_cons, List.map_nil]); first | done | rfl | (simp only [List.length_drop, List.length_take]; rfl)) ?_; (with_reducible refine (laws_szPtSS.calls k _ _ l0_1 t512 t513 _ ?side1 ?side2 A7.out).mono ?_); (case side1 => repeat (first | exact (Kd.C_below HR0_1.out (by repeat (first | (with_reducible first | exact HB.out | apply below_alloc | apply pw_below_drewN | apply below_drew1 | refine below_set ?_ GE511.out) | exact HB.out))) | (with_reducible refine Kd.C_alloc ?_ _) | (with_reducible refine Kd.C_drewN ?_ _) | (with_reducible refine Kd.C_drew ?_))); (case side2 => exact HC0_1.out); rintro e w' ⟨rfl, ⟨nd, rfl⟩⟩; refine ⟨_, rfl, ?_⟩))
   go_ret
   exact ⟨by first | rfl | (simp [errW_none, errW_some] <;> rfl) | (simp [*, errW_none, errW_some] <;> rfl), by repeat (first | (with_reducible first | exact HB.out | apply below_alloc | apply pw_below_drewN | apply below_drew1 | refine below_set ?_ GE511.out) | exact HB.out)⟩
  ·rw [if_neg c8] at H; have c8b0 : decide (t513 < 0) = false := decide_eq_false c8; clear c8; obtain rfl := Option.some.inj H; go_enter Tryd.func12, Tryd.ntmps12
   go_wp2_with (first | ((with_reducible refine gate_dst (N := 2) rfl ?_); refine box_event ?hg (N := 2) ?hd (cs := #[.slice A0_0 l0_0.length c0_0, .slice A0_1 l0_1.length c0_1]) (t := 25) ?hr ?_; (case hd => rfl); (case hg => rfl); (case hr => first | (go_simp; done) | (go_simp; rfl)); intro gb511 hg w11 hbox hb; have n0_ := Aside0.mk (below_step (by repeat (first | (with_reducible first | exact HB.out | apply below_alloc | apply pw_below_drewN | apply below_drew1) | exact HB.out)) hb); have n1_ := Aside0.mk (hbox); have n2_ := Aside0.mk ((by rw [hg]; exact (below_size (by repeat (first | (with_reducible first | exact HB.out | apply below_alloc | apply pw_below_drewN | apply below_drew1) | exact HB.out))) : w.heap.size ≤ gb511)); have n3_ := Aside0.mk ((by rw [hg]; exact (below_size (by repeat (first | (with_reducible first | exact HB.out | apply below_alloc | apply pw_below_drewN | apply below_drew1) | exact HB.out))) : w.heap.size ≤ gb511)); clear HB; have HB := n0_; have BK511 := n1_; have GW511 := n2_; have GE511 := n3_; clear n0_ n1_ n2_ n3_; clear hb hbox hg; have hcz12_0 : w11.cell? ⟨gb511, 0, none⟩ = some (.slice A0_0 l0_0.length c0_0) := (blk_cell BK511.out 0).trans rfl; have hcz12_1 : w11.cell? ⟨gb511, 1, none⟩ = some (.slice A0_1 l0_1.length c0_1) := (blk_cell BK511.out 1).trans rfl; have hfz12_0 := blk_frozen BK511.out 0; have hfz12_1 := blk_frozen BK511.out 1) | ((with_reducible refine gate_callee (f := 38) rfl ?_); refine goesL_ (some 8) rfl rfl Tryd.func38 (by kernel_rfl) rfl #[.slice A0_0 l0_0.length c0_0, .int .i64 a1] rfl (by (try simp only [List.map_toArray, List.map_cons, List.map_nil]); first | done | rfl | (simp only [List.length_drop, List.length_take]; rfl)) ?_; (with_reducible refine (laws_szPtS.calls _ _ l0_0 a1 t512 _ ?side1 ?side2 A3.out).mono ?_); (case side1 => repeat (first | exact (Kd.C_below HR0_0.out HB.out) | (with_reducible refine Kd.C_alloc ?_ _) | (with_reducible refine Kd.C_drewN ?_ _) | (with_reducible refine Kd.C_drew ?_))); (case side2 => exact HC0_0.out); rintro e w' ⟨rfl, ⟨nd, rfl⟩⟩; refine ⟨_, rfl, ?_⟩) | ((with_reducible refine gate_callee (f := 40) rfl ?_); refine goesL_ (some 14) rfl rfl Tryd.func40 (by kernel_rfl) rfl #[.slice A0_1 l0_1.length c0_1, .int .i64 t512] rfl (by (try simp only [List.map_toArray, List.map_cons, List.map_nil]); first | done | rfl | (simp only [List.length_drop, List.length_take]; rfl)) ?_; (with_reducible refine (laws_szPtSS.calls k _ _ l0_1 t512 t513 _ ?side1 ?side2 A7.out).mono ?_); (case side1 => repeat (first | exact (Kd.C_below HR0_1.out (by repeat (first | (with_reducible first | exact HB.out | apply below_alloc | apply pw_below_drewN | apply below_drew1 | refine below_set ?_ GE511.out) | exact HB.out))) | (with_reducible refine Kd.C_alloc ?_ _) | (with_reducible refine Kd.C_drewN ?_ _) | (with_reducible refine Kd.C_drew ?_))); (case side2 => exact HC0_1.out); rintro e w' ⟨rfl, ⟨nd, rfl⟩⟩; refine ⟨_, rfl, ?_⟩))
   go_ret
   exact ⟨by first | rfl | (simp [errW_none, errW_some] <;> rfl) | (simp [*, errW_none, errW_some] <;> rfl), by repeat (first | (with_reducible first | exact HB.out | apply below_alloc | apply pw_below_drewN | apply below_drew1 | refine below_set ?_ GE511.out) | exact HB.out)⟩

end Go.Proofs.YtddbahlofgkoaaaDoor.PA
namespace Go.Proofs.YtddbahlofgkoaaaDoor.PA
open Go.RowKit Go.Proofs.YtddbahlofgkoaaaDoorW.PrintWords Go.Proofs.YtddbahlofgkoaaaDoorW.PrintLast Go.Proofs.YtddbahlofgkoaaaDoorW.PrintMore
attribute [local go_sem] max2_int min2_int max_two min_two max_three min_three max_four min_four   -- for this text's walks alone
set_option linter.unusedVariables false
set_option linter.unusedSimpArgs false

/-! ### spec_l6Dec: function 68 -/
def spec_l6Dec.f : Nat → Int → Option (ByteArray)
 | 0, _ => none
 | k + 1, a0 => if a0 < (-9223372036854775807) then (some (⟨#[45, 57, 50, 50, 51, 51, 55, 50, 48, 51, 54, 56, 53, 52, 55, 55, 53, 56, 48, 56]⟩ : ByteArray)) else (if a0 < 0 then ((spec_l6Dec.f k (wrap64 (-a0))).bind fun t201 => (if 1 + t201.size ≤ 9223372036854775807 then (some ((⟨#[45]⟩ : ByteArray) ++ t201)) else (none))) else (if a0 < 10 then (some (strOfNums (([(wrap64 (48 + a0)) % 256] : List Int)))) else ((spec_l6Dec.f k (wrap64 (Int.tdiv a0 10))).bind fun t205 => ((some (([(wrap64 (48 + (Int.tmod a0 10))) % 256] : List Int) : List Int)).bind fun y206 => (if t205.size + (strOfNums y206).size ≤ 9223372036854775807 then (some (t205 ++ (strOfNums y206))) else (none))))))
theorem spec_l6Dec.mono_l : ∀ k, (∀ y0, LeO (spec_l6Dec.f k y0) (spec_l6Dec.f (k + 1) y0))
 | 0 => fun _ r h => by simp [spec_l6Dec.f] at h
 | k + 1 => by
  have ih0 := spec_l6Dec.mono_l k
  ·intro y0; unfold spec_l6Dec.f; repeat' first
   | (with_reducible exact ih0 _)
   | (with_reducible exact LeO.refl _)
   | (with_reducible exact LeO.none _)
   | (with_reducible refine LeO.ite ?_ ?_)
   | (with_reducible refine LeO.bind ?_ (fun _ => ?_))
   | exact ih0 _
   | exact LeO.none _
   | refine LeO.ite ?_ ?_
   | refine LeO.bind ?_ (fun _ => ?_)
theorem spec_l6Dec.mono : ∀ a0 k, LeO (spec_l6Dec.f k a0) (spec_l6Dec.f (k + 1) a0) := by
 intro a0 k; have ih0 := spec_l6Dec.mono_l k; exact ih0 a0
def spec_l6Dec.T7 : Bool × List (List Nat × List Nat) := (true, [([], []), ([0], [0]), ([1], [1]), ([], []), ([3], [3]), ([4], [4]), ([5], [5]), ([6], [6]), ([7], [7]), ([2, 8], [2, 8]), ([9, 2, 0, 1, 2, 3, 4, 5, 6, 7, 8, 9], [9])])
def spec_l6Dec.B7 : List Nat := [0, 1, 3, 0, 8, 24, 56, 120, 248, 511, 1023]
theorem spec_l6Dec.tab7 : rtab .any (opsOf Tryd.f68 7) = spec_l6Dec.T7 := by kernel_rfl
theorem spec_l6Dec.bits7 : waitsOk spec_l6Dec.T7.2 spec_l6Dec.B7 = true := by kernel_rfl
set_option maxHeartbeats 8000000 in
set_option maxRecDepth 100000 in
theorem spec_l6Dec.calls (k : Nat) : ∀ (a0 : Int) (r : ByteArray) (w : World) (h : spec_l6Dec.f k a0 = some r),
  Calls Tryd.prog 68 #[.int .i64 a0] w fun e w' => e = .returned (.string r) ∧ Below w.heap.size w w' := by
 induction k using Nat.strongRecOn with
 | _ k ih =>
 intro a0 r w h; cases k with
 | zero => exact absurd h (by simp [spec_l6Dec.f])
 | succ k =>
 simp only [spec_l6Dec.f] at h; have HB := Aside0.mk (Below.refl w.heap.size w); have H : (if a0 < (-9223372036854775807) then (some (⟨#[45, 57, 50, 50, 51, 51, 55, 50, 48, 51, 54, 56, 53, 52, 55, 55, 53, 56, 48, 56]⟩ : ByteArray)) else (if a0 < 0 then ((spec_l6Dec.f k (wrap64 (-a0))).bind fun t201 => (if 1 + t201.size ≤ 9223372036854775807 then (some ((⟨#[45]⟩ : ByteArray) ++ t201)) else (none))) else (if a0 < 10 then (some (strOfNums (([(wrap64 (48 + a0)) % 256] : List Int)))) else ((spec_l6Dec.f k (wrap64 (Int.tdiv a0 10))).bind fun t205 => ((some (([(wrap64 (48 + (Int.tmod a0 10))) % 256] : List Int) : List Int)).bind fun y206 => (if t205.size + (strOfNums y206).size ≤ 9223372036854775807 then (some (t205 ++ (strOfNums y206))) else (none))))))) = some r := h; clear h; by_cases c2 : a0 < (-9223372036854775807)
 ·rw [if_pos c2] at H; have c2b0 : decide (a0 < (-9223372036854775807)) = true := decide_eq_true c2; clear c2; obtain rfl := Option.some.inj H; go_enter Tryd.func68, Tryd.ntmps68
  go_wp2
  go_ret
  exact ⟨by first | rfl | (simp [errW_none, errW_some] <;> rfl) | (simp [*, errW_none, errW_some] <;> rfl), by repeat (first | (with_reducible first | exact HB.out | apply below_alloc | apply pw_below_drewN | apply below_drew1) | exact HB.out)⟩
 ·rw [if_neg c2] at H; have c2b0 : decide (a0 < (-9223372036854775807)) = false := decide_eq_false c2; clear c2; by_cases c3 : a0 < 0
  ·rw [if_pos c3] at H; have c3b0 : decide (a0 < 0) = true := decide_eq_true c3; clear c3; replace H := Option.bind_eq_some_iff.mp H; obtain ⟨t201, A40, H⟩ := H; replace H : (if 1 + t201.size ≤ 9223372036854775807 then (some ((⟨#[45]⟩ : ByteArray) ++ t201)) else (none)) = some r := H; have A4 := Aside0.mk A40; clear A40; by_cases c5 : 1 + t201.size ≤ 9223372036854775807
   ·rw [if_pos c5] at H; have c5b0 := eq_true c5; have c5b1 : decide (1 + t201.size ≤ 9223372036854775807) = true := decide_eq_true c5; try have c5b2 : (9223372036854775807 < 1 + t201.size) = False := eq_false (Nat.not_lt.2 c5)
    obtain rfl := Option.some.inj H; go_enter Tryd.func68, Tryd.ntmps68
    go_wp2_with (first | ((with_reducible refine gate_callee (f := 68) rfl ?_); refine goesL_ (some 9) rfl rfl Tryd.func68 (by kernel_rfl) rfl #[.int .i64 (wrap64 (-a0))] rfl (by (try simp only [List.map_toArray, List.map_cons, List.map_nil]); first | done | rfl | (simp only [List.length_drop, List.length_take]; rfl)) ?_; (with_reducible refine (ih k (by omega) (wrap64 (-a0)) t201 _ A4.out).mono ?_); rintro e w6 ⟨rfl, hb⟩; refine ⟨_, rfl, ?_⟩; have n0_ := Aside0.mk (below_step (by repeat (first | (with_reducible first | exact HB.out | apply below_alloc | apply pw_below_drewN | apply below_drew1) | exact HB.out)) hb); clear HB; have HB := n0_; clear n0_; (try clear hb); (try clear hb2); (try clear hk); (try clear hi)))
    go_ret
    exact ⟨by first | rfl | (simp [errW_none, errW_some] <;> rfl) | (simp [*, errW_none, errW_some] <;> rfl), by repeat (first | (with_reducible first | exact HB.out | apply below_alloc | apply pw_below_drewN | apply below_drew1) | exact HB.out)⟩
   ·rw [if_neg c5] at H; exact absurd H (by simp)
  ·rw [if_neg c3] at H; have c3b0 : decide (a0 < 0) = false := decide_eq_false c3; clear c3; by_cases c7 : a0 < 10
   ·rw [if_pos c7] at H; have c7b0 : decide (a0 < 10) = true := decide_eq_true c7; clear c7; obtain ⟨y202, hy202⟩ : ∃ y_ : List Int, y_ = (([(wrap64 (48 + a0)) % 256] : List Int)) := ⟨_, rfl⟩; replace H : (some (strOfNums y202)) = some r := by first | (rw [hy202]; with_reducible exact H) | (have H2_ := (Option.bind_some _ _).symm.trans H; rw [hy202]; with_reducible exact H2_) | (have H2_ := (Option.bind_some _ _).symm.trans H; with_reducible exact H2_) | with_reducible exact H | (rw [hy202]; exact H) | exact H
    have Ny202 := Aside0.mk hy202; clear hy202; obtain rfl := Option.some.inj H; go_enter Tryd.func68, Tryd.ntmps68
    go_wp2_with (first | ((with_reducible refine gate_dst (N := 16) rfl ?_); refine Kd.R_lit (Kd.int .u8) _ 5 ?hg (N := 16) ?hd (xs := ([(wrap64 (48 + a0)) % 256] : List Int)) (inner := [.int .u8 ((wrap64 (48 + a0)) % 256)]) (ok := fun _ => True) (okp := fun _ => True) ?hr ?hp (fun _ hk => hk) trivial (Below.refl _ _) (Nat.le_refl _) (by simp) ?_; (case hd => rfl); (case hg => rfl); (case hr => first | (go_simp; done) | (go_simp; rfl)); (case hp => exact (Reps.one (show Kd.M (Kd.int .u8) _ _ _ ((wrap64 (48 + a0)) % 256) [.int .u8 ((wrap64 (48 + a0)) % 256)] from rfl) (Reps.none _ _))); intro v203 w8 ho9 hb hg_ hnew_; clear hg_ hnew_; (first | rw [← Ny202.out] at ho9 | (simp only [Int.reduceToNat] at ho9; rw [← Ny202.out] at ho9)); have n0_ := Aside0.mk (Kd.R_lower ho9 (below_size (by repeat (first | (with_reducible first | exact HB.out | apply below_alloc | apply pw_below_drewN | apply below_drew1) | exact HB.out)))); have n1_ := Aside0.mk (below_step (by repeat (first | (with_reducible first | exact HB.out | apply below_alloc | apply pw_below_drewN | apply below_drew1) | exact HB.out)) hb); clear HB; have HO204 := n0_; have HB := n1_; clear n0_ n1_; clear hb ho9; have hcv10 := own_string (P := Tryd.prog) Tryd.underlying41 Tryd.underlying5 Tryd.underlying9 (Kd.own_of_R HO204.out)))
    go_ret
    exact ⟨by first | rfl | (simp [errW_none, errW_some] <;> rfl) | (simp [*, errW_none, errW_some] <;> rfl), by repeat (first | (with_reducible first | exact HB.out | apply below_alloc | apply pw_below_drewN | apply below_drew1) | exact HB.out)⟩
   ·rw [if_neg c7] at H; have c7b0 : decide (a0 < 10) = false := decide_eq_false c7; clear c7; replace H := Option.bind_eq_some_iff.mp H; obtain ⟨t205, A110, H⟩ := H; replace H : ((some (([(wrap64 (48 + (Int.tmod a0 10))) % 256] : List Int) : List Int)).bind fun y206 => (if t205.size + (strOfNums y206).size ≤ 9223372036854775807 then (some (t205 ++ (strOfNums y206))) else (none))) = some r := H; have A11 := Aside0.mk A110; clear A110; obtain ⟨y206, hy206⟩ : ∃ y_ : List Int, y_ = (([(wrap64 (48 + (Int.tmod a0 10))) % 256] : List Int)) := ⟨_, rfl⟩; replace H : (if t205.size + (strOfNums y206).size ≤ 9223372036854775807 then (some (t205 ++ (strOfNums y206))) else (none)) = some r := by first | (rw [hy206]; with_reducible exact H) | (have H2_ := (Option.bind_some _ _).symm.trans H; rw [hy206]; with_reducible exact H2_) | (have H2_ := (Option.bind_some _ _).symm.trans H; with_reducible exact H2_) | with_reducible exact H | (rw [hy206]; exact H) | exact H
    have Ny206 := Aside0.mk hy206; clear hy206; by_cases c12 : t205.size + (strOfNums y206).size ≤ 9223372036854775807
    ·rw [if_pos c12] at H; have c12b0 := eq_true c12; have c12b1 : decide (t205.size + (strOfNums y206).size ≤ 9223372036854775807) = true := decide_eq_true c12; try have c12b2 : (9223372036854775807 < t205.size + (strOfNums y206).size) = False := eq_false (Nat.not_lt.2 c12)
     obtain rfl := Option.some.inj H; go_enter Tryd.func68, Tryd.ntmps68
     try go_wp2
     have n0_ := Aside0.mk (below_drew1 HB.out); clear HB; have HB := n0_; clear n0_; refine start_ (n := 11) (S := fun w' => True) (ds := []) #[false, false, false, false, false, false, false, false, false, false, false] (by kernel_rfl) rfl rfl trivial (fun hHeld => ?_); refine with_tabW spec_l6Dec.tab7 spec_l6Dec.bits7 (fun HT_ HW_ => ?_)
     generalize w.drew = w13 at HB hHeld ⊢
     refine pu_ HT_.out 0 18 {} ?_; refine pu_ HT_.out 1 19 {} ?_; refine pu_ HT_.out 3 21 {} ?_; refine pu_ HT_.out 4 22 {} ?_; refine pu_ HT_.out 5 23 {} ?_; refine pu_ HT_.out 6 24 {} ?_
     refine join_ (σ := Value) 2 #[true, true, true, true, true, true, true, true, true, false, false] (fun s_ => [(20, .string t205), (25, s_), (26, .string (strOfNums y206))]) (fun s_ w' => (Kd.R (Kd.int .u8) 5 w' w.heap.size (fun _ => True) s_ y206) ∧ (Below w.heap.size w w')) ?_ ?_; rotate_left
     ·intro hCont; refine two_ (i := 2) (j := 7) (Ni := some 20) (Nj := some 25) #[true, true, true, true, true, true, true, false, false, false, false] #[true, true, false, true, true, true, true, true, false, false, false] rfl rfl rfl rfl (two_of HT_.out (by kernel_rfl)) (by decide) (by decide) (fun K hK => ?_) (fun K hK => ?_)
      ·skip
       refine goes_ Tryd.func68 (by kernel_rfl) rfl #[.int .i64 (wrap64 (Int.tdiv a0 10))] (by rfl) rfl rfl (by (try simp only [List.map_toArray, List.map_cons, List.map_nil]); first | done | rfl | (simp only [List.length_drop, List.length_take]; rfl)) ?_; with_reducible refine (ih k (by omega) (wrap64 (Int.tdiv a0 10)) t205 _ A11.out).mono ?_
       rintro e w14 ⟨rfl, hb⟩; refine ⟨_, rfl, ?_⟩; have n0_ := Aside0.mk (below_step (by repeat (first | (with_reducible first | exact HB.out | apply below_alloc | apply pw_below_drewN | apply below_drew1) | exact HB.out)) hb); clear HB; have HB := n0_; clear n0_; (try clear hb); (try clear hb2); (try clear hk); (try clear hi); refine hK.out _ _ trivial (fun hHeld => ?_); clear hK K; refine norm_ (a' := ?_) ?_ ?_; rotate_left; ·show Act.put _ (some 20) _ = _; simp only [Act.put, Geo.sa_, Geo.sb_, Geo.sc_, i64_w, i32_w]; rfl
       refine one_ (i := 7) (N := some 25) #[true, true, true, true, true, true, true, true, false, false, false] rfl rfl (one_of HT_.out (by kernel_rfl)) (by decide) (fun K hK => ?_); refine Kd.R_lit_step (Kd.int .u8) _ 5 ?hg (N := 25) ?hd (xs := ([(wrap64 (48 + (Int.tmod a0 10))) % 256] : List Int)) (inner := [.int .u8 ((wrap64 (48 + (Int.tmod a0 10))) % 256)]) (ok := fun _ => True) (okp := fun _ => True) ?hr ?hp (fun _ hk => hk) trivial (Below.refl _ _) (Nat.le_refl _) (by simp) ?_; (case hd => rfl); (case hg => rfl); (case hr => first | (go_simp; done) | (go_simp; rfl)); (case hp => exact (Reps.one (show Kd.M (Kd.int .u8) _ _ _ ((wrap64 (48 + (Int.tmod a0 10))) % 256) [.int .u8 ((wrap64 (48 + (Int.tmod a0 10))) % 256)] from rfl) (Reps.none _ _)))
       intro v207 w15 ho16 hb hg_ hnew_; clear hg_ hnew_; (first | rw [← Ny206.out] at ho16 | (simp only [Int.reduceToNat] at ho16; rw [← Ny206.out] at ho16)); have n0_ := Aside0.mk (Kd.R_lower ho16 (below_size (by repeat (first | (with_reducible first | exact HB.out | apply below_alloc | apply pw_below_drewN | apply below_drew1) | exact HB.out)))); have n1_ := Aside0.mk (below_step (by repeat (first | (with_reducible first | exact HB.out | apply below_alloc | apply pw_below_drewN | apply below_drew1) | exact HB.out)) hb); clear HB; have HO208 := n0_; have HB := n1_; clear n0_ n1_; clear hb ho16; refine hK.out _ _ trivial (fun hHeld => ?_); clear hK K; refine norm_ (a' := ?_) ?_ ?_; rotate_left; ·show Act.put _ (some 25) _ = _; simp only [Act.put, Geo.sa_, Geo.sb_, Geo.sc_, i64_w, i32_w]; rfl
       refine one_ (i := 8) (N := some 26) #[true, true, true, true, true, true, true, true, true, false, false] rfl rfl (one_of HT_.out (by kernel_rfl)) (by decide) (fun K hK => ?_); have hcv17 := own_string (P := Tryd.prog) Tryd.underlying41 Tryd.underlying5 Tryd.underlying9 (Kd.own_of_R HO208.out); refine value_ (w1 := ?_) (v := ?_) (by rfl) rfl ?_ ?_; rotate_left 2
       ·go_simp; constructor
        ·rfl
        ·rfl
       clear hcv17; refine hK.out _ _ trivial (fun hHeld => ?_); clear hK K; refine norm_ (a' := ?_) ?_ ?_; rotate_left; ·show Act.put _ (some 26) _ = _; simp only [Act.put, Geo.sa_, Geo.sb_, Geo.sc_, i64_w, i32_w]; rfl
       exact norm_ (by simp only [putAll, Act.put, Geo.sa_, Geo.sb_, Geo.sc_]) (hCont (v207) _ ⟨(by (with_reducible repeat (first | apply Kd.R_alloc | apply Kd.R_drewN | apply Kd.R_drew)); exact HO208.out), (by repeat (first | (with_reducible first | exact HB.out | apply below_alloc | apply pw_below_drewN | apply below_drew1) | exact HB.out))⟩)
      ·skip
       refine Kd.R_lit_step (Kd.int .u8) _ 5 ?hg (N := 25) ?hd (xs := ([(wrap64 (48 + (Int.tmod a0 10))) % 256] : List Int)) (inner := [.int .u8 ((wrap64 (48 + (Int.tmod a0 10))) % 256)]) (ok := fun _ => True) (okp := fun _ => True) ?hr ?hp (fun _ hk => hk) trivial (Below.refl _ _) (Nat.le_refl _) (by simp) ?_; (case hd => rfl); (case hg => rfl); (case hr => first | (go_simp; done) | (go_simp; rfl)); (case hp => exact (Reps.one (show Kd.M (Kd.int .u8) _ _ _ ((wrap64 (48 + (Int.tmod a0 10))) % 256) [.int .u8 ((wrap64 (48 + (Int.tmod a0 10))) % 256)] from rfl) (Reps.none _ _)))
       intro v207 w14 ho15 hb hg_ hnew_; clear hg_ hnew_; (first | rw [← Ny206.out] at ho15 | (simp only [Int.reduceToNat] at ho15; rw [← Ny206.out] at ho15)); have n0_ := Aside0.mk (Kd.R_lower ho15 (below_size (by repeat (first | (with_reducible first | exact HB.out | apply below_alloc | apply pw_below_drewN | apply below_drew1) | exact HB.out)))); have n1_ := Aside0.mk (below_step (by repeat (first | (with_reducible first | exact HB.out | apply below_alloc | apply pw_below_drewN | apply below_drew1) | exact HB.out)) hb); clear HB; have HO208 := n0_; have HB := n1_; clear n0_ n1_; clear hb ho15; refine hK.out _ _ trivial (fun hHeld => ?_); clear hK K; refine norm_ (a' := ?_) ?_ ?_; rotate_left; ·show Act.put _ (some 25) _ = _; simp only [Act.put, Geo.sa_, Geo.sb_, Geo.sc_, i64_w, i32_w]; rfl
       refine two_ (i := 2) (j := 8) (Ni := some 20) (Nj := some 26) #[true, true, true, true, true, true, true, true, false, false, false] #[true, true, false, true, true, true, true, true, true, false, false] rfl rfl rfl rfl (two_of HT_.out (by kernel_rfl)) (by decide) (by decide) (fun K hK => ?_) (fun K hK => ?_)
       ·skip
        refine goes_ Tryd.func68 (by kernel_rfl) rfl #[.int .i64 (wrap64 (Int.tdiv a0 10))] (by rfl) rfl rfl (by (try simp only [List.map_toArray, List.map_cons, List.map_nil]); first | done | rfl | (simp only [List.length_drop, List.length_take]; rfl)) ?_; with_reducible refine (ih k (by omega) (wrap64 (Int.tdiv a0 10)) t205 _ A11.out).mono ?_
        rintro e w16 ⟨rfl, hb⟩; refine ⟨_, rfl, ?_⟩; have n0_ := Aside0.mk (Kd.R_below (by (with_reducible repeat (first | apply Kd.R_alloc | apply Kd.R_drewN | apply Kd.R_drew)); exact HO208.out) hb); have n1_ := Aside0.mk (below_step (by repeat (first | (with_reducible first | exact HB.out | apply below_alloc | apply pw_below_drewN | apply below_drew1) | exact HB.out)) hb); clear HO208; clear HB; have HO208 := n0_; have HB := n1_; clear n0_ n1_; (try clear hb); (try clear hb2); (try clear hk); (try clear hi); refine hK.out _ _ trivial (fun hHeld => ?_); clear hK K; refine norm_ (a' := ?_) ?_ ?_; rotate_left; ·show Act.put _ (some 20) _ = _; simp only [Act.put, Geo.sa_, Geo.sb_, Geo.sc_, i64_w, i32_w]; rfl
        refine one_ (i := 8) (N := some 26) #[true, true, true, true, true, true, true, true, true, false, false] rfl rfl (one_of HT_.out (by kernel_rfl)) (by decide) (fun K hK => ?_); have hcv17 := own_string (P := Tryd.prog) Tryd.underlying41 Tryd.underlying5 Tryd.underlying9 (Kd.own_of_R HO208.out); refine value_ (w1 := ?_) (v := ?_) (by rfl) rfl ?_ ?_; rotate_left 2
        ·go_simp; constructor
         ·rfl
         ·rfl
        clear hcv17; refine hK.out _ _ trivial (fun hHeld => ?_); clear hK K; refine norm_ (a' := ?_) ?_ ?_; rotate_left; ·show Act.put _ (some 26) _ = _; simp only [Act.put, Geo.sa_, Geo.sb_, Geo.sc_, i64_w, i32_w]; rfl
        exact norm_ (by simp only [putAll, Act.put, Geo.sa_, Geo.sb_, Geo.sc_]) (hCont (v207) _ ⟨(by (with_reducible repeat (first | apply Kd.R_alloc | apply Kd.R_drewN | apply Kd.R_drew)); exact HO208.out), (by repeat (first | (with_reducible first | exact HB.out | apply below_alloc | apply pw_below_drewN | apply below_drew1) | exact HB.out))⟩)
       ·skip
        have hcv16 := own_string (P := Tryd.prog) Tryd.underlying41 Tryd.underlying5 Tryd.underlying9 (Kd.own_of_R HO208.out); refine value_ (w1 := ?_) (v := ?_) (by rfl) rfl ?_ ?_; rotate_left 2
        ·go_simp; constructor
         ·rfl
         ·rfl
        clear hcv16; refine hK.out _ _ trivial (fun hHeld => ?_); clear hK K; refine norm_ (a' := ?_) ?_ ?_; rotate_left; ·show Act.put _ (some 26) _ = _; simp only [Act.put, Geo.sa_, Geo.sb_, Geo.sc_, i64_w, i32_w]; rfl
        refine one_ (i := 2) (N := some 20) #[true, true, true, true, true, true, true, true, true, false, false] rfl rfl (one_of HT_.out (by kernel_rfl)) (by decide) (fun K hK => ?_); refine goes_ Tryd.func68 (by kernel_rfl) rfl #[.int .i64 (wrap64 (Int.tdiv a0 10))] (by rfl) rfl rfl (by (try simp only [List.map_toArray, List.map_cons, List.map_nil]); first | done | rfl | (simp only [List.length_drop, List.length_take]; rfl)) ?_; with_reducible refine (ih k (by omega) (wrap64 (Int.tdiv a0 10)) t205 _ A11.out).mono ?_
        rintro e w17 ⟨rfl, hb⟩; refine ⟨_, rfl, ?_⟩; have n0_ := Aside0.mk (Kd.R_below (by (with_reducible repeat (first | apply Kd.R_alloc | apply Kd.R_drewN | apply Kd.R_drew)); exact HO208.out) hb); have n1_ := Aside0.mk (below_step (by repeat (first | (with_reducible first | exact HB.out | apply below_alloc | apply pw_below_drewN | apply below_drew1) | exact HB.out)) hb); clear HO208; clear HB; have HO208 := n0_; have HB := n1_; clear n0_ n1_; (try clear hb); (try clear hb2); (try clear hk); (try clear hi); refine hK.out _ _ trivial (fun hHeld => ?_); clear hK K; refine norm_ (a' := ?_) ?_ ?_; rotate_left; ·show Act.put _ (some 20) _ = _; simp only [Act.put, Geo.sa_, Geo.sb_, Geo.sc_, i64_w, i32_w]; rfl
        exact norm_ (by simp only [putAll, Act.put, Geo.sa_, Geo.sb_, Geo.sc_]) (hCont (v207) _ ⟨(by (with_reducible repeat (first | apply Kd.R_alloc | apply Kd.R_drewN | apply Kd.R_drew)); exact HO208.out), (by repeat (first | (with_reducible first | exact HB.out | apply below_alloc | apply pw_below_drewN | apply below_drew1) | exact HB.out))⟩)
     rintro v207 w18 ⟨h0_, h1_⟩; have n0_ : Aside0 (Kd.R (Kd.int .u8) 5 w18 w.heap.size (fun _ => True) v207 y206) := ⟨h0_⟩; have n1_ : Aside0 (Below w.heap.size w w18) := ⟨h1_⟩; clear HB; clear h0_ h1_; have HO208 := n0_; have HB := n1_; clear n0_ n1_; have hHeld := trivial; refine norm_ (a' := ?_) ?_ ?_; rotate_left; ·simp only [putAll, Act.put, Geo.sa_, Geo.sb_, Geo.sc_]; rfl
     refine pu_ HT_.out 9 27 {} ?_; refine pu_ HT_.out 10 2 {} ?_
     refine done_ (done_of HT_.out (by kernel_rfl)) ?_; try go_wp2
     go_ret
     exact ⟨by first | rfl | (simp [errW_none, errW_some] <;> rfl) | (simp [*, errW_none, errW_some] <;> rfl), by repeat (first | (with_reducible first | exact HB.out | apply below_alloc | apply pw_below_drewN | apply below_drew1) | exact HB.out)⟩
    ·rw [if_neg c12] at H; exact absurd H (by simp)

end Go.Proofs.YtddbahlofgkoaaaDoor.PA
namespace Go.Proofs.YtddbahlofgkoaaaDoor.PA
open Go.RowKit Go.Proofs.YtddbahlofgkoaaaDoorW.PrintWords Go.Proofs.YtddbahlofgkoaaaDoorW.PrintLast Go.Proofs.YtddbahlofgkoaaaDoorW.PrintMore
attribute [local go_sem] max2_int min2_int max_two min_two max_three min_three max_four min_four   -- for this text's walks alone
set_option linter.unusedVariables false
set_option linter.unusedSimpArgs false

/-! ### spec_l3Pt: function 74 -/
def spec_l3Pt.f (k : Nat) (a0_0 : Int) (a0_1 : Int) : Option (ByteArray) := (spec_l6Dec.f k a0_0).bind fun t210 => (if t210.size + 1 ≤ 9223372036854775807 then ((spec_l6Dec.f k a0_1).bind fun t211 => (if (t210 ++ (⟨#[44]⟩ : ByteArray)).size + t211.size ≤ 9223372036854775807 then (some ((t210 ++ (⟨#[44]⟩ : ByteArray)) ++ t211)) else (none))) else (none))
theorem spec_l3Pt.mono : ∀ a0 a1 k, LeO (spec_l3Pt.f k a0 a1) (spec_l3Pt.f (k + 1) a0 a1) := by
 intro a0 a1 k; unfold spec_l3Pt.f; repeat' first
   | (with_reducible exact spec_l6Dec.mono _ _)
   | (with_reducible exact LeO.refl _)
   | (with_reducible exact LeO.none _)
   | (with_reducible refine LeO.ite ?_ ?_)
   | (with_reducible refine LeO.bind ?_ (fun _ => ?_))
   | exact spec_l6Dec.mono _ _
   | exact LeO.none _
   | refine LeO.ite ?_ ?_
   | refine LeO.bind ?_ (fun _ => ?_)
def spec_l3Pt.T1 : Bool × List (List Nat × List Nat) := (true, [([], []), ([0], [0]), ([1], [1]), ([2], [2]), ([], []), ([4], [4]), ([5, 2], [5]), ([3, 6], [3, 6]), ([7, 6, 0, 1, 2, 3, 4, 5, 6, 7], [7])])
def spec_l3Pt.B1 : List Nat := [0, 1, 3, 7, 0, 16, 55, 127, 255]
theorem spec_l3Pt.tab1 : rtab .any (opsOf Tryd.f74 1) = spec_l3Pt.T1 := by kernel_rfl
theorem spec_l3Pt.bits1 : waitsOk spec_l3Pt.T1.2 spec_l3Pt.B1 = true := by kernel_rfl
set_option maxHeartbeats 8000000 in
set_option maxRecDepth 100000 in
theorem spec_l3Pt.calls (k : Nat) (a0_0 : Int) (a0_1 : Int) (r : ByteArray) (w : World) (h : spec_l3Pt.f k a0_0 a0_1 = some r) :
  Calls Tryd.prog 74 #[.agg #[.int .i64 a0_0, .int .i64 a0_1]] w fun e w' => e = .returned (.string r) ∧ Below w.heap.size w w' := by
 have hu97 := Tryd.underlying97; have HB := Aside0.mk (Below.refl w.heap.size w); have H : ((spec_l6Dec.f k a0_0).bind fun t210 => (if t210.size + 1 ≤ 9223372036854775807 then ((spec_l6Dec.f k a0_1).bind fun t211 => (if (t210 ++ (⟨#[44]⟩ : ByteArray)).size + t211.size ≤ 9223372036854775807 then (some ((t210 ++ (⟨#[44]⟩ : ByteArray)) ++ t211)) else (none))) else (none))) = some r := h; clear h; replace H := Option.bind_eq_some_iff.mp H; obtain ⟨t210, A20, H⟩ := H; replace H : (if t210.size + 1 ≤ 9223372036854775807 then ((spec_l6Dec.f k a0_1).bind fun t211 => (if (t210 ++ (⟨#[44]⟩ : ByteArray)).size + t211.size ≤ 9223372036854775807 then (some ((t210 ++ (⟨#[44]⟩ : ByteArray)) ++ t211)) else (none))) else (none)) = some r := H; have A2 := Aside0.mk A20; clear A20; by_cases c3 : t210.size + 1 ≤ 9223372036854775807
 ·rw [if_pos c3] at H; have c3b0 := eq_true c3; have c3b1 : decide (t210.size + 1 ≤ 9223372036854775807) = true := decide_eq_true c3; try have c3b2 : (9223372036854775807 < t210.size + 1) = False := eq_false (Nat.not_lt.2 c3); try simp only [ByteArray.size_append, Geo.sz1_] at c3b2
  replace H := Option.bind_eq_some_iff.mp H; obtain ⟨t211, A40, H⟩ := H; replace H : (if (t210 ++ (⟨#[44]⟩ : ByteArray)).size + t211.size ≤ 9223372036854775807 then (some ((t210 ++ (⟨#[44]⟩ : ByteArray)) ++ t211)) else (none)) = some r := H; have A4 := Aside0.mk A40; clear A40; by_cases c5 : (t210 ++ (⟨#[44]⟩ : ByteArray)).size + t211.size ≤ 9223372036854775807
  ·rw [if_pos c5] at H; have c5b0 := eq_true c5; have c5b1 : decide ((t210 ++ (⟨#[44]⟩ : ByteArray)).size + t211.size ≤ 9223372036854775807) = true := decide_eq_true c5; try have c5b2 : (9223372036854775807 < (t210 ++ (⟨#[44]⟩ : ByteArray)).size + t211.size) = False := eq_false (Nat.not_lt.2 c5); try simp only [ByteArray.size_append, Geo.sz1_] at c5b2
   obtain rfl := Option.some.inj H; go_enter Tryd.func74, Tryd.ntmps74
   try go_wp2_with (first | ((with_reducible refine gate_dst (N := 1) rfl ?_); refine box_event ?hg (N := 1) ?hd (cs := #[.int .i64 a0_0, .int .i64 a0_1]) (t := 97) ?hr ?_; (case hd => rfl); (case hg => rfl); (case hr => first | (go_simp; done) | (go_simp; rfl)); intro gb209 hg w6 hbox hb; have n0_ := Aside0.mk (below_step (by repeat (first | (with_reducible first | exact HB.out | apply below_alloc | apply pw_below_drewN | apply below_drew1) | exact HB.out)) hb); have n1_ := Aside0.mk (hbox); have n2_ := Aside0.mk ((by rw [hg]; exact (below_size (by repeat (first | (with_reducible first | exact HB.out | apply below_alloc | apply pw_below_drewN | apply below_drew1) | exact HB.out))) : w.heap.size ≤ gb209)); have n3_ := Aside0.mk ((by rw [hg]; exact (below_size (by repeat (first | (with_reducible first | exact HB.out | apply below_alloc | apply pw_below_drewN | apply below_drew1) | exact HB.out))) : w.heap.size ≤ gb209)); clear HB; have HB := n0_; have BK209 := n1_; have GW209 := n2_; have GE209 := n3_; clear n0_ n1_ n2_ n3_; clear hb hbox hg))
   have n0_ := Aside0.mk (blk_drew BK209.out); have n1_ := Aside0.mk (below_drew1 HB.out); clear BK209; clear HB; have BK209 := n0_; have HB := n1_; clear n0_ n1_; refine start_ (n := 9) (S := fun w' => w'.cell? ⟨gb209, 0, none⟩ = some (.int .i64 a0_0) ∧ w'.cell? ⟨gb209, 1, none⟩ = some (.int .i64 a0_1)) (ds := []) #[false, false, false, false, false, false, false, false, false] (by kernel_rfl) rfl rfl ⟨(blk_cell BK209.out 0).trans rfl, (blk_cell BK209.out 1).trans rfl⟩ (fun hHeld => ?_); refine with_tabW spec_l3Pt.tab1 spec_l3Pt.bits1 (fun HT_ HW_ => ?_)
   generalize w6.drew = w7 at BK209 HB hHeld ⊢
   refine pu_ HT_.out 0 3 {} ?_; refine pu_ HT_.out 4 7 {} ?_; refine tk_ HT_.out HW_.out 1 4 hHeld {} ?_; refine tk_ HT_.out HW_.out 5 8 hHeld {} ?_
   refine one_ (i := 2) (N := some 5) #[true, true, true, false, true, true, false, false, false] rfl rfl (one_of HT_.out (by kernel_rfl)) (by decide) (fun K hK => ?_); refine goes_ Tryd.func68 (by kernel_rfl) rfl #[.int .i64 a0_0] (by rfl) rfl rfl (by (try simp only [List.map_toArray, List.map_cons, List.map_nil]); first | done | rfl | (simp only [List.length_drop, List.length_take]; rfl)) ?_; with_reducible refine (spec_l6Dec.calls k a0_0 t210 _ A2.out).mono ?_
   rintro e w8 ⟨rfl, hb⟩; refine ⟨_, rfl, ?_⟩; have n0_ := Aside0.mk (blk_below (g := gb209) (o := .cells #[.int .i64 a0_0, .int .i64 a0_1] 97 (0, 0)) (by (with_reducible repeat (first | refine blk_drewN ?_ _ | refine blk_drew ?_ | refine blk_alloc ?_ _)); exact BK209.out) hb); have n1_ := Aside0.mk (below_step (by repeat (first | (with_reducible first | exact HB.out | apply below_alloc | apply pw_below_drewN | apply below_drew1 | refine below_set ?_ GE209.out) | exact HB.out)) hb); clear BK209; clear HB; have BK209 := n0_; have HB := n1_; clear n0_ n1_; (try clear hb); (try clear hb2); (try clear hk); (try clear hi); refine hK.out _ _ ⟨(blk_cell BK209.out 0).trans rfl, (blk_cell BK209.out 1).trans rfl⟩ (fun hHeld => ?_); clear hK K; refine norm_ (a' := ?_) ?_ ?_; rotate_left; ·show Act.put _ (some 5) _ = _; simp only [Act.put, Geo.sa_, Geo.sb_, Geo.sc_, i64_w, i32_w]; rfl
   refine pu_ HT_.out 3 6 {} ?_
   refine one_ (i := 6) (N := some 9) #[true, true, true, true, true, true, true, false, false] rfl rfl (one_of HT_.out (by kernel_rfl)) (by decide) (fun K hK => ?_); refine goes_ Tryd.func68 (by kernel_rfl) rfl #[.int .i64 a0_1] (by rfl) rfl rfl (by (try simp only [List.map_toArray, List.map_cons, List.map_nil]); first | done | rfl | (simp only [List.length_drop, List.length_take]; rfl)) ?_; with_reducible refine (spec_l6Dec.calls k a0_1 t211 _ A4.out).mono ?_
   rintro e w9 ⟨rfl, hb⟩; refine ⟨_, rfl, ?_⟩; have n0_ := Aside0.mk (blk_below (g := gb209) (o := .cells #[.int .i64 a0_0, .int .i64 a0_1] 97 (0, 0)) (by (with_reducible repeat (first | refine blk_drewN ?_ _ | refine blk_drew ?_ | refine blk_alloc ?_ _)); exact BK209.out) hb); have n1_ := Aside0.mk (below_step (by repeat (first | (with_reducible first | exact HB.out | apply below_alloc | apply pw_below_drewN | apply below_drew1 | refine below_set ?_ GE209.out) | exact HB.out)) hb); clear BK209; clear HB; have BK209 := n0_; have HB := n1_; clear n0_ n1_; (try clear hb); (try clear hb2); (try clear hk); (try clear hi); refine hK.out _ _ ⟨(blk_cell BK209.out 0).trans rfl, (blk_cell BK209.out 1).trans rfl⟩ (fun hHeld => ?_); clear hK K; refine norm_ (a' := ?_) ?_ ?_; rotate_left; ·show Act.put _ (some 9) _ = _; simp only [Act.put, Geo.sa_, Geo.sb_, Geo.sc_, i64_w, i32_w]; rfl
   refine pu_ HT_.out 7 10 {} ?_; refine pu_ HT_.out 8 2 {} ?_
   refine done_ (done_of HT_.out (by kernel_rfl)) ?_; try go_wp2
   go_ret
   exact ⟨by first | rfl | (simp [errW_none, errW_some] <;> rfl) | (simp [*, errW_none, errW_some] <;> rfl), by repeat (first | (with_reducible first | exact HB.out | apply below_alloc | apply pw_below_drewN | apply below_drew1 | refine below_set ?_ GE209.out) | exact HB.out)⟩
  ·rw [if_neg c5] at H; exact absurd H (by simp)
 ·rw [if_neg c3] at H; exact absurd H (by simp)

end Go.Proofs.YtddbahlofgkoaaaDoor.PA
namespace Go.Proofs.YtddbahlofgkoaaaDoor.PA
open Go.RowKit Go.Proofs.YtddbahlofgkoaaaDoorW.PrintWords Go.Proofs.YtddbahlofgkoaaaDoorW.PrintLast Go.Proofs.YtddbahlofgkoaaaDoorW.PrintMore
attribute [local go_sem] max2_int min2_int max_two min_two max_three min_three max_four min_four   -- for this text's walks alone
set_option linter.unusedVariables false
set_option linter.unusedSimpArgs false

/-! ### spec_l3Text: function 42 -/
def spec_l3Text.l0 : Nat → List (S97) → ByteArray → Int → Option (ByteArray)
 | 0, _, _, _ => none
 | k + 1, x0, x3, x4 => if x4 < (x0.length : Int) then (if x4 > 0 then (if x3.size + 1 ≤ 9223372036854775807 then (if 0 ≤ x4 then ((spec_l3Pt.f k ((rd_T97 x0 x4).f0) ((rd_T97 x0 x4).f1)).bind fun t213 => (if (x3 ++ (⟨#[32]⟩ : ByteArray)).size + t213.size ≤ 9223372036854775807 then (spec_l3Text.l0 k x0 ((x3 ++ (⟨#[32]⟩ : ByteArray)) ++ t213) (wrap64 (x4 + 1))) else (none))) else (none)) else (none)) else (if 0 ≤ x4 then ((spec_l3Pt.f k ((rd_T97 x0 x4).f0) ((rd_T97 x0 x4).f1)).bind fun t215 => (if x3.size + t215.size ≤ 9223372036854775807 then (spec_l3Text.l0 k x0 (x3 ++ t215) (wrap64 (x4 + 1))) else (none))) else (none))) else (some x3)
def spec_l3Text.f (k : Nat) (l0 : List (S97)) : Option (ByteArray) := spec_l3Text.l0 k l0 (⟨#[]⟩ : ByteArray) 0
theorem spec_l3Text.mono_l : ∀ k, (∀ y0 y1 y2, LeO (spec_l3Text.l0 k y0 y1 y2) (spec_l3Text.l0 (k + 1) y0 y1 y2))
 | 0 => fun _ _ _ r h => by simp [spec_l3Text.l0] at h
 | k + 1 => by
  have ih0 := spec_l3Text.mono_l k
  ·intro y0 y1 y2; unfold spec_l3Text.l0; repeat' first
   | (with_reducible exact ih0 _ _ _)
   | (with_reducible exact spec_l3Pt.mono _ _ _)
   | (with_reducible exact LeO.refl _)
   | (with_reducible exact LeO.none _)
   | (with_reducible refine LeO.ite ?_ ?_)
   | (with_reducible refine LeO.bind ?_ (fun _ => ?_))
   | exact ih0 _ _ _
   | exact spec_l3Pt.mono _ _ _
   | exact LeO.none _
   | refine LeO.ite ?_ ?_
   | refine LeO.bind ?_ (fun _ => ?_)
theorem spec_l3Text.mono : ∀ a0 k, LeO (spec_l3Text.f k a0) (spec_l3Text.f (k + 1) a0) := by
 intro a0 k; have ih0 := spec_l3Text.mono_l k; unfold spec_l3Text.f; repeat' first
   | (with_reducible exact ih0 _ _ _)
   | (with_reducible exact spec_l3Pt.mono _ _ _)
   | (with_reducible exact LeO.refl _)
   | (with_reducible exact LeO.none _)
   | (with_reducible refine LeO.ite ?_ ?_)
   | (with_reducible refine LeO.bind ?_ (fun _ => ?_))
   | exact ih0 _ _ _
   | exact spec_l3Pt.mono _ _ _
   | exact LeO.none _
   | refine LeO.ite ?_ ?_
   | refine LeO.bind ?_ (fun _ => ?_)
set_option maxHeartbeats 8000000 in
set_option maxRecDepth 100000 in
theorem spec_l3Text.calls (k : Nat) (A0 : Option Addr) (c0 : Nat) (l0 : List (S97)) (r : ByteArray) (w : World) (hr0 : Kd.C k97 w A0 l0.length l0) (hc0 : l0.length ≤ c0) (h : spec_l3Text.f k l0 = some r) :
  Calls Tryd.prog 42 #[.slice A0 l0.length c0] w fun e w' => e = .returned (.string r) ∧ Below w.heap.size w w' := by
 have hu97 := Tryd.underlying97; have HR0 := Aside0.mk hr0; have HC0 := Aside0.mk hc0; clear hr0 hc0; have HB := Aside0.mk (Below.refl w.heap.size w); have H : (spec_l3Text.l0 k l0 (⟨#[]⟩ : ByteArray) 0) = some r := h; clear h; have H' := Aside0.mk H; clear H; go_enter Tryd.func42, Tryd.ntmps42
 go_wp2
 go_loopg [3, 4] k (fun kq v3 v4 w' => ∃ (x3_1 : ByteArray) (x4_1 : Int), v3 = .string x3_1 ∧ v4 = .int .i64 x4_1 ∧ Aside0 (spec_l3Text.l0 kq l0 x3_1 x4_1 = some r) ∧ Aside0 (kq ≤ k) ∧ Aside0 (Below w.heap.size w w'))
 case atStart => exact ⟨((⟨#[]⟩ : ByteArray)), (0), (by first | rfl | (simp; done) | (simp [*]; done)), (by first | rfl | (simp; done) | (simp [*]; done)), H', ⟨Nat.le_refl _⟩, ⟨by repeat (first | (with_reducible first | exact HB.out | apply below_alloc | apply pw_below_drewN | apply below_drew1) | exact HB.out)⟩⟩
 case round =>
  clear H'; obtain ⟨x3_1, x4_1, rfl, rfl, HA, HK1, HB⟩ := hrel; cases gk with
  | zero => exact absurd HA.out (by simp [spec_l3Text.l0])
  | succ k1 =>
   have H := HA.out; clear HA; simp only [spec_l3Text.l0] at H; by_cases c2 : x4_1 < (l0.length : Int)
   ·rw [if_pos c2] at H; have c2b0 : decide (x4_1 < (l0.length : Int)) = true := decide_eq_true c2; clear c2; by_cases c3 : x4_1 > 0
    ·rw [if_pos c3] at H; have c3b0 : decide (0 < x4_1) = true := decide_eq_true c3; clear c3; by_cases c4 : x3_1.size + 1 ≤ 9223372036854775807
     ·rw [if_pos c4] at H; have c4b0 := eq_true c4; have c4b1 : decide (x3_1.size + 1 ≤ 9223372036854775807) = true := decide_eq_true c4; try have c4b2 : (9223372036854775807 < x3_1.size + 1) = False := eq_false (Nat.not_lt.2 c4); try simp only [ByteArray.size_append, Geo.sz1_] at c4b2
      by_cases c5 : 0 ≤ x4_1
      ·rw [if_pos c5] at H; have c5b0 : decide (0 ≤ x4_1) = true := decide_eq_true c5; clear c5; replace H := Option.bind_eq_some_iff.mp H; obtain ⟨t213, A60, H⟩ := H; replace H : (if (x3_1 ++ (⟨#[32]⟩ : ByteArray)).size + t213.size ≤ 9223372036854775807 then (spec_l3Text.l0 k1 l0 ((x3_1 ++ (⟨#[32]⟩ : ByteArray)) ++ t213) (wrap64 (x4_1 + 1))) else (none)) = some r := H; have A6 := Aside0.mk A60; clear A60; by_cases c7 : (x3_1 ++ (⟨#[32]⟩ : ByteArray)).size + t213.size ≤ 9223372036854775807
       ·rw [if_pos c7] at H; have c7b0 := eq_true c7; have c7b1 : decide ((x3_1 ++ (⟨#[32]⟩ : ByteArray)).size + t213.size ≤ 9223372036854775807) = true := decide_eq_true c7; try have c7b2 : (9223372036854775807 < (x3_1 ++ (⟨#[32]⟩ : ByteArray)).size + t213.size) = False := eq_false (Nat.not_lt.2 c7); try simp only [ByteArray.size_append, Geo.sz1_] at c7b2
        have H' := Aside0.mk H; clear H; have p212 : 0 ≤ (x4_1 : Int) := of_decide_eq_true (by first | (with_reducible assumption) | assumption); have q212 : x4_1 < (l0.length : Int) := of_decide_eq_true (by first | (with_reducible assumption) | assumption); obtain ⟨ad212, e212, hx212_0, hx212_1⟩ := at_T97 HR0.out x4_1 p212 q212; cases e212; replace hx212_0 := (HB.out.cell (World.block_lt_of_cell? w _ hx212_0)).trans hx212_0; replace hx212_1 := (HB.out.cell (World.block_lt_of_cell? w _ hx212_1)).trans hx212_1; replace p212 := eq_true p212; replace q212 := eq_true q212; go_wp2_with (first | ((with_reducible refine gate_callee (f := 74) rfl ?_); refine goesL_ (some 20) rfl rfl Tryd.func74 (by kernel_rfl) rfl #[.agg #[.int .i64 ((rd_T97 l0 x4_1).f0), .int .i64 ((rd_T97 l0 x4_1).f1)]] rfl (by (try simp only [List.map_toArray, List.map_cons, List.map_nil]); first | done | rfl | (simp only [List.length_drop, List.length_take]; rfl)) ?_; (with_reducible refine (spec_l3Pt.calls k1 ((rd_T97 l0 x4_1).f0) ((rd_T97 l0 x4_1).f1) t213 _ A6.out).mono ?_); rintro e w8 ⟨rfl, hb⟩; refine ⟨_, rfl, ?_⟩; have n0_ := Aside0.mk (below_step (by repeat (first | (with_reducible first | exact HB.out | apply below_alloc | apply pw_below_drewN | apply below_drew1) | exact HB.out)) hb); clear HB; have HB := n0_; clear n0_; (try clear hb); (try clear hb2); (try clear hk); (try clear hi)))
        go_roundg k1
        case measure => have := HK1.out; omega
        case rel => exact ⟨((x3_1 ++ (⟨#[32]⟩ : ByteArray)) ++ t213), (wrap64 (x4_1 + 1)), (by first | rfl | (simp; done) | (simp [*]; done)), (by first | rfl | (simp; done) | (simp [*]; done)), H', ⟨by have := HK1.out; omega⟩, ⟨by repeat (first | (with_reducible first | exact HB.out | apply below_alloc | apply pw_below_drewN | apply below_drew1) | exact HB.out)⟩⟩
       ·rw [if_neg c7] at H; exact absurd H (by simp)
      ·rw [if_neg c5] at H; exact absurd H (by simp)
     ·rw [if_neg c4] at H; exact absurd H (by simp)
    ·rw [if_neg c3] at H; have c3b0 : decide (0 < x4_1) = false := decide_eq_false c3; clear c3; by_cases c9 : 0 ≤ x4_1
     ·rw [if_pos c9] at H; have c9b0 : decide (0 ≤ x4_1) = true := decide_eq_true c9; clear c9; replace H := Option.bind_eq_some_iff.mp H; obtain ⟨t215, A100, H⟩ := H; replace H : (if x3_1.size + t215.size ≤ 9223372036854775807 then (spec_l3Text.l0 k1 l0 (x3_1 ++ t215) (wrap64 (x4_1 + 1))) else (none)) = some r := H; have A10 := Aside0.mk A100; clear A100; by_cases c11 : x3_1.size + t215.size ≤ 9223372036854775807
      ·rw [if_pos c11] at H; have c11b0 := eq_true c11; have c11b1 : decide (x3_1.size + t215.size ≤ 9223372036854775807) = true := decide_eq_true c11; try have c11b2 : (9223372036854775807 < x3_1.size + t215.size) = False := eq_false (Nat.not_lt.2 c11); try simp only [ByteArray.size_append, Geo.sz1_] at c11b2
       have H' := Aside0.mk H; clear H; have p214 : 0 ≤ (x4_1 : Int) := of_decide_eq_true (by first | (with_reducible assumption) | assumption); have q214 : x4_1 < (l0.length : Int) := of_decide_eq_true (by first | (with_reducible assumption) | assumption); obtain ⟨ad214, e214, hx214_0, hx214_1⟩ := at_T97 HR0.out x4_1 p214 q214; cases e214; replace hx214_0 := (HB.out.cell (World.block_lt_of_cell? w _ hx214_0)).trans hx214_0; replace hx214_1 := (HB.out.cell (World.block_lt_of_cell? w _ hx214_1)).trans hx214_1; replace p214 := eq_true p214; replace q214 := eq_true q214; go_wp2_with (first | ((with_reducible refine gate_callee (f := 74) rfl ?_); refine goesL_ (some 20) rfl rfl Tryd.func74 (by kernel_rfl) rfl #[.agg #[.int .i64 ((rd_T97 l0 x4_1).f0), .int .i64 ((rd_T97 l0 x4_1).f1)]] rfl (by (try simp only [List.map_toArray, List.map_cons, List.map_nil]); first | done | rfl | (simp only [List.length_drop, List.length_take]; rfl)) ?_; (with_reducible refine (spec_l3Pt.calls k1 ((rd_T97 l0 x4_1).f0) ((rd_T97 l0 x4_1).f1) t215 _ A10.out).mono ?_); rintro e w12 ⟨rfl, hb⟩; refine ⟨_, rfl, ?_⟩; have n0_ := Aside0.mk (below_step (by repeat (first | (with_reducible first | exact HB.out | apply below_alloc | apply pw_below_drewN | apply below_drew1) | exact HB.out)) hb); clear HB; have HB := n0_; clear n0_; (try clear hb); (try clear hb2); (try clear hk); (try clear hi)))
       go_roundg k1
       case measure => have := HK1.out; omega
       case rel => exact ⟨(x3_1 ++ t215), (wrap64 (x4_1 + 1)), (by first | rfl | (simp; done) | (simp [*]; done)), (by first | rfl | (simp; done) | (simp [*]; done)), H', ⟨by have := HK1.out; omega⟩, ⟨by repeat (first | (with_reducible first | exact HB.out | apply below_alloc | apply pw_below_drewN | apply below_drew1) | exact HB.out)⟩⟩
      ·rw [if_neg c11] at H; exact absurd H (by simp)
     ·rw [if_neg c9] at H; exact absurd H (by simp)
   ·rw [if_neg c2] at H; have c2b0 : decide (x4_1 < (l0.length : Int)) = false := decide_eq_false c2; clear c2; obtain rfl := Option.some.inj H; go_wp2
    go_ret
    exact ⟨by first | rfl | (simp [errW_none, errW_some] <;> rfl) | (simp [*, errW_none, errW_some] <;> rfl), by repeat (first | (with_reducible first | exact HB.out | apply below_alloc | apply pw_below_drewN | apply below_drew1) | exact HB.out)⟩

end Go.Proofs.YtddbahlofgkoaaaDoor.PA
namespace Go.Proofs.YtddbahlofgkoaaaDoor.PA
open Go.RowKit Go.Proofs.YtddbahlofgkoaaaDoorW.PrintWords Go.Proofs.YtddbahlofgkoaaaDoorW.PrintLast Go.Proofs.YtddbahlofgkoaaaDoorW.PrintMore
attribute [local go_sem] max2_int min2_int max_two min_two max_three min_three max_four min_four   -- for this text's walks alone
set_option linter.unusedVariables false
set_option linter.unusedSimpArgs false

/-! ### spec_l6In: function 50 -/
def spec_l6In.f (a0 : Int) (a1 : Int) (a2 : Int) : Option (Bool) := if a0 ≥ a1 then (some (decide (a0 ≤ a2))) else (some false)
set_option maxHeartbeats 8000000 in
set_option maxRecDepth 100000 in
theorem spec_l6In.calls (a0 : Int) (a1 : Int) (a2 : Int) (r : Bool) (w : World) (h : spec_l6In.f a0 a1 a2 = some r) :
  Calls Tryd.prog 50 #[.int .i64 a0, .int .i64 a1, .int .i64 a2] w fun e w' => e = .returned (.bool r) ∧ Drawn0 w w' := by
 have H : (if a0 ≥ a1 then (some (decide (a0 ≤ a2))) else (some false)) = some r := h; clear h; by_cases c4 : a0 ≥ a1
 ·rw [if_pos c4] at H; have c4b0 : decide (a1 ≤ a0) = true := decide_eq_true c4; clear c4; obtain rfl := Option.some.inj H; go_enter Tryd.func50, Tryd.ntmps50
  go_wp2
  go_ret
  exact ⟨by first | rfl | (simp; done) | (simp [*]; done), by repeat (first | exact Drawn0.refl _ | apply Drawn0.step)⟩
 ·rw [if_neg c4] at H; have c4b0 : decide (a1 ≤ a0) = false := decide_eq_false c4; clear c4; obtain rfl := Option.some.inj H; go_enter Tryd.func50, Tryd.ntmps50
  go_wp2
  go_ret
  exact ⟨by first | rfl | (simp; done) | (simp [*]; done), by repeat (first | exact Drawn0.refl _ | apply Drawn0.step)⟩

end Go.Proofs.YtddbahlofgkoaaaDoor.PA
namespace Go.Proofs.YtddbahlofgkoaaaDoor.PA
open Go.RowKit Go.Proofs.YtddbahlofgkoaaaDoorW.PrintWords Go.Proofs.YtddbahlofgkoaaaDoorW.PrintLast Go.Proofs.YtddbahlofgkoaaaDoorW.PrintMore
attribute [local go_sem] max2_int min2_int max_two min_two max_three min_three max_four min_four   -- for this text's walks alone
set_option linter.unusedVariables false
set_option linter.unusedSimpArgs false

theorem eqA97 (d : Nat) (w : World) (x0 y0 : Int) (x1 y1 : Int) :
  (Op.equalIn (d + 2) 97 (.agg #[.int .i64 x0, .int .i64 x1]) (.agg #[.int .i64 y0, .int .i64 y1])).run Tryd.prog w = .ok (x0 == y0 && (x1 == y1)) w := by
 refine eqA_of Tryd.underlying97 (by kernel_rfl) ?_; refine eqf_cons (by rfl) (by go_simp; rfl) (by go_simp; rfl) (by go_simp) ?_; exact eqf_last (by rfl) (by go_simp; rfl) (by go_simp; rfl) (by go_simp)
end Go.Proofs.YtddbahlofgkoaaaDoor.PA
namespace Go.Proofs.YtddbahlofgkoaaaDoor.PA
open Go.RowKit Go.Proofs.YtddbahlofgkoaaaDoorW.PrintWords Go.Proofs.YtddbahlofgkoaaaDoorW.PrintLast Go.Proofs.YtddbahlofgkoaaaDoorW.PrintMore
attribute [local go_sem] max2_int min2_int max_two min_two max_three min_three max_four min_four   -- for this text's walks alone
set_option linter.unusedVariables false
set_option linter.unusedSimpArgs false

/-! ### spec_PtOk: function 101 -/
def spec_PtOk.f (a0_0 : Int) (a0_1 : Int) : Option (Bool) := (spec_l6In.f a0_0 0 9).bind fun t225 => (if t225 = true then ((spec_l6In.f a0_1 0 9).bind fun t226 => (some t226)) else (some false))
set_option maxHeartbeats 8000000 in
set_option maxRecDepth 100000 in
theorem spec_PtOk.calls (a0_0 : Int) (a0_1 : Int) (r : Bool) (w : World) (h : spec_PtOk.f a0_0 a0_1 = some r) :
  Calls Tryd.prog 101 #[.agg #[.int .i64 a0_0, .int .i64 a0_1]] w fun e w' => e = .returned (.bool r) ∧ Below w.heap.size w w' := by
 have hu97 := Tryd.underlying97; have HB := Aside0.mk (Below.refl w.heap.size w); have H : ((spec_l6In.f a0_0 0 9).bind fun t225 => (if t225 = true then ((spec_l6In.f a0_1 0 9).bind fun t226 => (some t226)) else (some false))) = some r := h; clear h; replace H := Option.bind_eq_some_iff.mp H; obtain ⟨t225, A20, H⟩ := H; replace H : (if t225 = true then ((spec_l6In.f a0_1 0 9).bind fun t226 => (some t226)) else (some false)) = some r := H; have A2 := Aside0.mk A20; clear A20; by_cases c3 : t225 = true
 ·subst c3; have H1 : ((spec_l6In.f a0_1 0 9).bind fun t226 => (some t226)) = some r := by rw [if_pos rfl] at H; exact H
  clear H; have H := H1; clear H1; replace H := Option.bind_eq_some_iff.mp H; obtain ⟨t226, A40, H⟩ := H; replace H : (some t226) = some r := H; have A4 := Aside0.mk A40; clear A40; obtain rfl := Option.some.inj H; go_enter Tryd.func101, Tryd.ntmps101
  go_wp2_with (first | ((with_reducible refine gate_dst (N := 1) rfl ?_); refine box_event ?hg (N := 1) ?hd (cs := #[.int .i64 a0_0, .int .i64 a0_1]) (t := 97) ?hr ?_; (case hd => rfl); (case hg => rfl); (case hr => first | (go_simp; done) | (go_simp; rfl)); intro gb224 hg w5 hbox hb; have n0_ := Aside0.mk (below_step (by repeat (first | (with_reducible first | exact HB.out | apply below_alloc | apply pw_below_drewN | apply below_drew1) | exact HB.out)) hb); have n1_ := Aside0.mk (hbox); have n2_ := Aside0.mk ((by rw [hg]; exact (below_size (by repeat (first | (with_reducible first | exact HB.out | apply below_alloc | apply pw_below_drewN | apply below_drew1) | exact HB.out))) : w.heap.size ≤ gb224)); have n3_ := Aside0.mk ((by rw [hg]; exact (below_size (by repeat (first | (with_reducible first | exact HB.out | apply below_alloc | apply pw_below_drewN | apply below_drew1) | exact HB.out))) : w.heap.size ≤ gb224)); clear HB; have HB := n0_; have BK224 := n1_; have GW224 := n2_; have GE224 := n3_; clear n0_ n1_ n2_ n3_; clear hb hbox hg; have hcz6_0 : w5.cell? ⟨gb224, 0, none⟩ = some (.int .i64 a0_0) := (blk_cell BK224.out 0).trans rfl; have hcz6_1 : w5.cell? ⟨gb224, 1, none⟩ = some (.int .i64 a0_1) := (blk_cell BK224.out 1).trans rfl; have hfz6_0 := blk_frozen BK224.out 0; have hfz6_1 := blk_frozen BK224.out 1) | ((with_reducible refine gate_callee (f := 50) rfl ?_); refine goesL_ (some 5) rfl rfl Tryd.func50 (by kernel_rfl) rfl #[.int .i64 a0_0, .int .i64 0, .int .i64 9] rfl (by (try simp only [List.map_toArray, List.map_cons, List.map_nil]); first | done | rfl | (simp only [List.length_drop, List.length_take]; rfl)) ?_; (with_reducible refine (spec_l6In.calls a0_0 0 9 true _ A2.out).mono ?_); rintro e w' ⟨rfl, ⟨nd, rfl⟩⟩; refine ⟨_, rfl, ?_⟩) | (go_at_call 50; (with_reducible refine (spec_l6In.calls a0_1 0 9 t226 _ A4.out).mono ?_); rintro e w' ⟨rfl, ⟨nd, rfl⟩⟩))
  go_ret
  exact ⟨by first | rfl | (simp [errW_none, errW_some] <;> rfl) | (simp [*, errW_none, errW_some] <;> rfl), by repeat (first | (with_reducible first | exact HB.out | apply below_alloc | apply pw_below_drewN | apply below_drew1 | refine below_set ?_ GE224.out) | exact HB.out)⟩
 ·replace c3 := Bool.eq_false_iff.mpr c3; subst c3; have H1 : (some false) = some r := by rw [if_neg (show ¬ (false = true) by decide)] at H; exact H
  clear H; have H := H1; clear H1; obtain rfl := Option.some.inj H; go_enter Tryd.func101, Tryd.ntmps101
  go_wp2_with (first | ((with_reducible refine gate_dst (N := 1) rfl ?_); refine box_event ?hg (N := 1) ?hd (cs := #[.int .i64 a0_0, .int .i64 a0_1]) (t := 97) ?hr ?_; (case hd => rfl); (case hg => rfl); (case hr => first | (go_simp; done) | (go_simp; rfl)); intro gb224 hg w7 hbox hb; have n0_ := Aside0.mk (below_step (by repeat (first | (with_reducible first | exact HB.out | apply below_alloc | apply pw_below_drewN | apply below_drew1) | exact HB.out)) hb); have n1_ := Aside0.mk (hbox); have n2_ := Aside0.mk ((by rw [hg]; exact (below_size (by repeat (first | (with_reducible first | exact HB.out | apply below_alloc | apply pw_below_drewN | apply below_drew1) | exact HB.out))) : w.heap.size ≤ gb224)); have n3_ := Aside0.mk ((by rw [hg]; exact (below_size (by repeat (first | (with_reducible first | exact HB.out | apply below_alloc | apply pw_below_drewN | apply below_drew1) | exact HB.out))) : w.heap.size ≤ gb224)); clear HB; have HB := n0_; have BK224 := n1_; have GW224 := n2_; have GE224 := n3_; clear n0_ n1_ n2_ n3_; clear hb hbox hg; have hcz8_0 : w7.cell? ⟨gb224, 0, none⟩ = some (.int .i64 a0_0) := (blk_cell BK224.out 0).trans rfl; have hcz8_1 : w7.cell? ⟨gb224, 1, none⟩ = some (.int .i64 a0_1) := (blk_cell BK224.out 1).trans rfl; have hfz8_0 := blk_frozen BK224.out 0; have hfz8_1 := blk_frozen BK224.out 1) | ((with_reducible refine gate_callee (f := 50) rfl ?_); refine goesL_ (some 5) rfl rfl Tryd.func50 (by kernel_rfl) rfl #[.int .i64 a0_0, .int .i64 0, .int .i64 9] rfl (by (try simp only [List.map_toArray, List.map_cons, List.map_nil]); first | done | rfl | (simp only [List.length_drop, List.length_take]; rfl)) ?_; (with_reducible refine (spec_l6In.calls a0_0 0 9 false _ A2.out).mono ?_); rintro e w' ⟨rfl, ⟨nd, rfl⟩⟩; refine ⟨_, rfl, ?_⟩))
  go_ret
  exact ⟨by first | rfl | (simp [errW_none, errW_some] <;> rfl) | (simp [*, errW_none, errW_some] <;> rfl), by repeat (first | (with_reducible first | exact HB.out | apply below_alloc | apply pw_below_drewN | apply below_drew1 | refine below_set ?_ GE224.out) | exact HB.out)⟩

end Go.Proofs.YtddbahlofgkoaaaDoor.PA
namespace Go.Proofs.YtddbahlofgkoaaaDoor.PA
open Go.RowKit Go.Proofs.YtddbahlofgkoaaaDoorW.PrintWords Go.Proofs.YtddbahlofgkoaaaDoorW.PrintLast Go.Proofs.YtddbahlofgkoaaaDoorW.PrintMore
attribute [local go_sem] max2_int min2_int max_two min_two max_three min_three max_four min_four   -- for this text's walks alone
set_option linter.unusedVariables false
set_option linter.unusedSimpArgs false

attribute [local go_sem high] eqA97
/-! ### spec_SegOk: function 85 -/
def spec_SegOk.f (a0_0 : Int) (a0_1 : Int) (a0_2 : Int) (a0_3 : Int) : Option (Bool) := (spec_PtOk.f a0_0 a0_1).bind fun t228 => (if t228 = true then ((spec_PtOk.f a0_2 a0_3).bind fun t229 => (if t229 = true then (some (!(a0_0 == a0_2) || (!(a0_1 == a0_3)))) else (some false))) else (some false))
set_option maxHeartbeats 8000000 in
set_option maxRecDepth 100000 in
theorem spec_SegOk.calls (a0_0 : Int) (a0_1 : Int) (a0_2 : Int) (a0_3 : Int) (r : Bool) (w : World) (h : spec_SegOk.f a0_0 a0_1 a0_2 a0_3 = some r) :
  Calls Tryd.prog 85 #[.agg #[.int .i64 a0_0, .int .i64 a0_1, .int .i64 a0_2, .int .i64 a0_3]] w fun e w' => e = .returned (.bool r) ∧ Below w.heap.size w w' := by
 have hu107 := Tryd.underlying107; have hu97 := Tryd.underlying97; have HB := Aside0.mk (Below.refl w.heap.size w); have H : ((spec_PtOk.f a0_0 a0_1).bind fun t228 => (if t228 = true then ((spec_PtOk.f a0_2 a0_3).bind fun t229 => (if t229 = true then (some (!(a0_0 == a0_2) || (!(a0_1 == a0_3)))) else (some false))) else (some false))) = some r := h; clear h; replace H := Option.bind_eq_some_iff.mp H; obtain ⟨t228, A20, H⟩ := H; replace H : (if t228 = true then ((spec_PtOk.f a0_2 a0_3).bind fun t229 => (if t229 = true then (some (!(a0_0 == a0_2) || (!(a0_1 == a0_3)))) else (some false))) else (some false)) = some r := H; have A2 := Aside0.mk A20; clear A20; by_cases c3 : t228 = true
 ·subst c3; have H1 : ((spec_PtOk.f a0_2 a0_3).bind fun t229 => (if t229 = true then (some (!(a0_0 == a0_2) || (!(a0_1 == a0_3)))) else (some false))) = some r := by rw [if_pos rfl] at H; exact H
  clear H; have H := H1; clear H1; replace H := Option.bind_eq_some_iff.mp H; obtain ⟨t229, A40, H⟩ := H; replace H : (if t229 = true then (some (!(a0_0 == a0_2) || (!(a0_1 == a0_3)))) else (some false)) = some r := H; have A4 := Aside0.mk A40; clear A40; by_cases c5 : t229 = true
  ·subst c5; have H1 : (some (!(a0_0 == a0_2) || (!(a0_1 == a0_3)))) = some r := by rw [if_pos rfl] at H; exact H
   clear H; have H := H1; clear H1; obtain rfl := Option.some.inj H; go_enter Tryd.func85, Tryd.ntmps85
   go_wp2_with (first | ((with_reducible refine gate_dst (N := 1) rfl ?_); refine box_event ?hg (N := 1) ?hd (cs := #[.int .i64 a0_0, .int .i64 a0_1, .int .i64 a0_2, .int .i64 a0_3]) (t := 107) ?hr ?_; (case hd => rfl); (case hg => rfl); (case hr => first | (go_simp; done) | (go_simp; rfl)); intro gb227 hg w6 hbox hb; have n0_ := Aside0.mk (below_step (by repeat (first | (with_reducible first | exact HB.out | apply below_alloc | apply pw_below_drewN | apply below_drew1) | exact HB.out)) hb); have n1_ := Aside0.mk (hbox); have n2_ := Aside0.mk ((by rw [hg]; exact (below_size (by repeat (first | (with_reducible first | exact HB.out | apply below_alloc | apply pw_below_drewN | apply below_drew1) | exact HB.out))) : w.heap.size ≤ gb227)); have n3_ := Aside0.mk ((by rw [hg]; exact (below_size (by repeat (first | (with_reducible first | exact HB.out | apply below_alloc | apply pw_below_drewN | apply below_drew1) | exact HB.out))) : w.heap.size ≤ gb227)); clear HB; have HB := n0_; have BK227 := n1_; have GW227 := n2_; have GE227 := n3_; clear n0_ n1_ n2_ n3_; clear hb hbox hg; have hcz7_0 : w6.cell? ⟨gb227, 0, none⟩ = some (.int .i64 a0_0) := (blk_cell BK227.out 0).trans rfl; have hcz7_1 : w6.cell? ⟨gb227, 1, none⟩ = some (.int .i64 a0_1) := (blk_cell BK227.out 1).trans rfl; have hcz7_2 : w6.cell? ⟨gb227, 2, none⟩ = some (.int .i64 a0_2) := (blk_cell BK227.out 2).trans rfl; have hcz7_3 : w6.cell? ⟨gb227, 3, none⟩ = some (.int .i64 a0_3) := (blk_cell BK227.out 3).trans rfl; have hfz7_0 := blk_frozen BK227.out 0; have hfz7_1 := blk_frozen BK227.out 1; have hfz7_2 := blk_frozen BK227.out 2; have hfz7_3 := blk_frozen BK227.out 3) | ((with_reducible refine gate_callee (f := 101) rfl ?_); refine goesL_ (some 5) rfl rfl Tryd.func101 (by kernel_rfl) rfl #[.agg #[.int .i64 a0_0, .int .i64 a0_1]] rfl (by (try simp only [List.map_toArray, List.map_cons, List.map_nil]); first | done | rfl | (simp only [List.length_drop, List.length_take]; rfl)) ?_; (with_reducible refine (spec_PtOk.calls a0_0 a0_1 true _ A2.out).mono ?_); rintro e w8 ⟨rfl, hb⟩; refine ⟨_, rfl, ?_⟩; have n0_ := Aside0.mk (blk_below (g := gb227) (o := .cells #[.int .i64 a0_0, .int .i64 a0_1, .int .i64 a0_2, .int .i64 a0_3] 107 (0, 0)) (by (with_reducible repeat (first | refine blk_drewN ?_ _ | refine blk_drew ?_ | refine blk_alloc ?_ _)); exact BK227.out) hb); have n1_ := Aside0.mk (below_step (by repeat (first | (with_reducible first | exact HB.out | apply below_alloc | apply pw_below_drewN | apply below_drew1 | refine below_set ?_ GE227.out) | exact HB.out)) hb); clear BK227; clear HB; have BK227 := n0_; have HB := n1_; clear n0_ n1_; (try clear hb); (try clear hb2); (try clear hk); (try clear hi); have hcz9_0 : w8.cell? ⟨gb227, 0, none⟩ = some (.int .i64 a0_0) := (blk_cell BK227.out 0).trans rfl; have hcz9_1 : w8.cell? ⟨gb227, 1, none⟩ = some (.int .i64 a0_1) := (blk_cell BK227.out 1).trans rfl; have hcz9_2 : w8.cell? ⟨gb227, 2, none⟩ = some (.int .i64 a0_2) := (blk_cell BK227.out 2).trans rfl; have hcz9_3 : w8.cell? ⟨gb227, 3, none⟩ = some (.int .i64 a0_3) := (blk_cell BK227.out 3).trans rfl; have hfz9_0 := blk_frozen BK227.out 0; have hfz9_1 := blk_frozen BK227.out 1; have hfz9_2 := blk_frozen BK227.out 2; have hfz9_3 := blk_frozen BK227.out 3) | (go_at_call 101; (with_reducible refine (spec_PtOk.calls a0_2 a0_3 true _ A4.out).mono ?_); rintro e w10 ⟨rfl, hb⟩; have n0_ := Aside0.mk (blk_below (g := gb227) (o := .cells #[.int .i64 a0_0, .int .i64 a0_1, .int .i64 a0_2, .int .i64 a0_3] 107 (0, 0)) (by (with_reducible repeat (first | refine blk_drewN ?_ _ | refine blk_drew ?_ | refine blk_alloc ?_ _)); exact BK227.out) hb); have n1_ := Aside0.mk (below_step (by repeat (first | (with_reducible first | exact HB.out | apply below_alloc | apply pw_below_drewN | apply below_drew1 | refine below_set ?_ GE227.out) | exact HB.out)) hb); clear BK227; clear HB; have BK227 := n0_; have HB := n1_; clear n0_ n1_; (try clear hb); (try clear hb2); (try clear hk); (try clear hi); have hcz11_0 : w10.cell? ⟨gb227, 0, none⟩ = some (.int .i64 a0_0) := (blk_cell BK227.out 0).trans rfl; have hcz11_1 : w10.cell? ⟨gb227, 1, none⟩ = some (.int .i64 a0_1) := (blk_cell BK227.out 1).trans rfl; have hcz11_2 : w10.cell? ⟨gb227, 2, none⟩ = some (.int .i64 a0_2) := (blk_cell BK227.out 2).trans rfl; have hcz11_3 : w10.cell? ⟨gb227, 3, none⟩ = some (.int .i64 a0_3) := (blk_cell BK227.out 3).trans rfl; have hfz11_0 := blk_frozen BK227.out 0; have hfz11_1 := blk_frozen BK227.out 1; have hfz11_2 := blk_frozen BK227.out 2; have hfz11_3 := blk_frozen BK227.out 3))
   go_ret
   exact ⟨by first | rfl | (simp [errW_none, errW_some] <;> rfl) | (simp [*, errW_none, errW_some] <;> rfl), by repeat (first | (with_reducible first | exact HB.out | apply below_alloc | apply pw_below_drewN | apply below_drew1 | refine below_set ?_ GE227.out) | exact HB.out)⟩
  ·replace c5 := Bool.eq_false_iff.mpr c5; subst c5; have H1 : (some false) = some r := by rw [if_neg (show ¬ (false = true) by decide)] at H; exact H
   clear H; have H := H1; clear H1; obtain rfl := Option.some.inj H; go_enter Tryd.func85, Tryd.ntmps85
   go_wp2_with (first | ((with_reducible refine gate_dst (N := 1) rfl ?_); refine box_event ?hg (N := 1) ?hd (cs := #[.int .i64 a0_0, .int .i64 a0_1, .int .i64 a0_2, .int .i64 a0_3]) (t := 107) ?hr ?_; (case hd => rfl); (case hg => rfl); (case hr => first | (go_simp; done) | (go_simp; rfl)); intro gb227 hg w12 hbox hb; have n0_ := Aside0.mk (below_step (by repeat (first | (with_reducible first | exact HB.out | apply below_alloc | apply pw_below_drewN | apply below_drew1) | exact HB.out)) hb); have n1_ := Aside0.mk (hbox); have n2_ := Aside0.mk ((by rw [hg]; exact (below_size (by repeat (first | (with_reducible first | exact HB.out | apply below_alloc | apply pw_below_drewN | apply below_drew1) | exact HB.out))) : w.heap.size ≤ gb227)); have n3_ := Aside0.mk ((by rw [hg]; exact (below_size (by repeat (first | (with_reducible first | exact HB.out | apply below_alloc | apply pw_below_drewN | apply below_drew1) | exact HB.out))) : w.heap.size ≤ gb227)); clear HB; have HB := n0_; have BK227 := n1_; have GW227 := n2_; have GE227 := n3_; clear n0_ n1_ n2_ n3_; clear hb hbox hg; have hcz13_0 : w12.cell? ⟨gb227, 0, none⟩ = some (.int .i64 a0_0) := (blk_cell BK227.out 0).trans rfl; have hcz13_1 : w12.cell? ⟨gb227, 1, none⟩ = some (.int .i64 a0_1) := (blk_cell BK227.out 1).trans rfl; have hcz13_2 : w12.cell? ⟨gb227, 2, none⟩ = some (.int .i64 a0_2) := (blk_cell BK227.out 2).trans rfl; have hcz13_3 : w12.cell? ⟨gb227, 3, none⟩ = some (.int .i64 a0_3) := (blk_cell BK227.out 3).trans rfl; have hfz13_0 := blk_frozen BK227.out 0; have hfz13_1 := blk_frozen BK227.out 1; have hfz13_2 := blk_frozen BK227.out 2; have hfz13_3 := blk_frozen BK227.out 3) | ((with_reducible refine gate_callee (f := 101) rfl ?_); refine goesL_ (some 5) rfl rfl Tryd.func101 (by kernel_rfl) rfl #[.agg #[.int .i64 a0_0, .int .i64 a0_1]] rfl (by (try simp only [List.map_toArray, List.map_cons, List.map_nil]); first | done | rfl | (simp only [List.length_drop, List.length_take]; rfl)) ?_; (with_reducible refine (spec_PtOk.calls a0_0 a0_1 true _ A2.out).mono ?_); rintro e w14 ⟨rfl, hb⟩; refine ⟨_, rfl, ?_⟩; have n0_ := Aside0.mk (blk_below (g := gb227) (o := .cells #[.int .i64 a0_0, .int .i64 a0_1, .int .i64 a0_2, .int .i64 a0_3] 107 (0, 0)) (by (with_reducible repeat (first | refine blk_drewN ?_ _ | refine blk_drew ?_ | refine blk_alloc ?_ _)); exact BK227.out) hb); have n1_ := Aside0.mk (below_step (by repeat (first | (with_reducible first | exact HB.out | apply below_alloc | apply pw_below_drewN | apply below_drew1 | refine below_set ?_ GE227.out) | exact HB.out)) hb); clear BK227; clear HB; have BK227 := n0_; have HB := n1_; clear n0_ n1_; (try clear hb); (try clear hb2); (try clear hk); (try clear hi); have hcz15_0 : w14.cell? ⟨gb227, 0, none⟩ = some (.int .i64 a0_0) := (blk_cell BK227.out 0).trans rfl; have hcz15_1 : w14.cell? ⟨gb227, 1, none⟩ = some (.int .i64 a0_1) := (blk_cell BK227.out 1).trans rfl; have hcz15_2 : w14.cell? ⟨gb227, 2, none⟩ = some (.int .i64 a0_2) := (blk_cell BK227.out 2).trans rfl; have hcz15_3 : w14.cell? ⟨gb227, 3, none⟩ = some (.int .i64 a0_3) := (blk_cell BK227.out 3).trans rfl; have hfz15_0 := blk_frozen BK227.out 0; have hfz15_1 := blk_frozen BK227.out 1; have hfz15_2 := blk_frozen BK227.out 2; have hfz15_3 := blk_frozen BK227.out 3) | (go_at_call 101; (with_reducible refine (spec_PtOk.calls a0_2 a0_3 false _ A4.out).mono ?_); rintro e w16 ⟨rfl, hb⟩; have n0_ := Aside0.mk (blk_below (g := gb227) (o := .cells #[.int .i64 a0_0, .int .i64 a0_1, .int .i64 a0_2, .int .i64 a0_3] 107 (0, 0)) (by (with_reducible repeat (first | refine blk_drewN ?_ _ | refine blk_drew ?_ | refine blk_alloc ?_ _)); exact BK227.out) hb); have n1_ := Aside0.mk (below_step (by repeat (first | (with_reducible first | exact HB.out | apply below_alloc | apply pw_below_drewN | apply below_drew1 | refine below_set ?_ GE227.out) | exact HB.out)) hb); clear BK227; clear HB; have BK227 := n0_; have HB := n1_; clear n0_ n1_; (try clear hb); (try clear hb2); (try clear hk); (try clear hi)))
   go_ret
   exact ⟨by first | rfl | (simp [errW_none, errW_some] <;> rfl) | (simp [*, errW_none, errW_some] <;> rfl), by repeat (first | (with_reducible first | exact HB.out | apply below_alloc | apply pw_below_drewN | apply below_drew1 | refine below_set ?_ GE227.out) | exact HB.out)⟩
 ·replace c3 := Bool.eq_false_iff.mpr c3; subst c3; have H1 : (some false) = some r := by rw [if_neg (show ¬ (false = true) by decide)] at H; exact H
  clear H; have H := H1; clear H1; obtain rfl := Option.some.inj H; go_enter Tryd.func85, Tryd.ntmps85
  go_wp2_with (first | ((with_reducible refine gate_dst (N := 1) rfl ?_); refine box_event ?hg (N := 1) ?hd (cs := #[.int .i64 a0_0, .int .i64 a0_1, .int .i64 a0_2, .int .i64 a0_3]) (t := 107) ?hr ?_; (case hd => rfl); (case hg => rfl); (case hr => first | (go_simp; done) | (go_simp; rfl)); intro gb227 hg w17 hbox hb; have n0_ := Aside0.mk (below_step (by repeat (first | (with_reducible first | exact HB.out | apply below_alloc | apply pw_below_drewN | apply below_drew1) | exact HB.out)) hb); have n1_ := Aside0.mk (hbox); have n2_ := Aside0.mk ((by rw [hg]; exact (below_size (by repeat (first | (with_reducible first | exact HB.out | apply below_alloc | apply pw_below_drewN | apply below_drew1) | exact HB.out))) : w.heap.size ≤ gb227)); have n3_ := Aside0.mk ((by rw [hg]; exact (below_size (by repeat (first | (with_reducible first | exact HB.out | apply below_alloc | apply pw_below_drewN | apply below_drew1) | exact HB.out))) : w.heap.size ≤ gb227)); clear HB; have HB := n0_; have BK227 := n1_; have GW227 := n2_; have GE227 := n3_; clear n0_ n1_ n2_ n3_; clear hb hbox hg; have hcz18_0 : w17.cell? ⟨gb227, 0, none⟩ = some (.int .i64 a0_0) := (blk_cell BK227.out 0).trans rfl; have hcz18_1 : w17.cell? ⟨gb227, 1, none⟩ = some (.int .i64 a0_1) := (blk_cell BK227.out 1).trans rfl; have hcz18_2 : w17.cell? ⟨gb227, 2, none⟩ = some (.int .i64 a0_2) := (blk_cell BK227.out 2).trans rfl; have hcz18_3 : w17.cell? ⟨gb227, 3, none⟩ = some (.int .i64 a0_3) := (blk_cell BK227.out 3).trans rfl; have hfz18_0 := blk_frozen BK227.out 0; have hfz18_1 := blk_frozen BK227.out 1; have hfz18_2 := blk_frozen BK227.out 2; have hfz18_3 := blk_frozen BK227.out 3) | ((with_reducible refine gate_callee (f := 101) rfl ?_); refine goesL_ (some 5) rfl rfl Tryd.func101 (by kernel_rfl) rfl #[.agg #[.int .i64 a0_0, .int .i64 a0_1]] rfl (by (try simp only [List.map_toArray, List.map_cons, List.map_nil]); first | done | rfl | (simp only [List.length_drop, List.length_take]; rfl)) ?_; (with_reducible refine (spec_PtOk.calls a0_0 a0_1 false _ A2.out).mono ?_); rintro e w19 ⟨rfl, hb⟩; refine ⟨_, rfl, ?_⟩; have n0_ := Aside0.mk (blk_below (g := gb227) (o := .cells #[.int .i64 a0_0, .int .i64 a0_1, .int .i64 a0_2, .int .i64 a0_3] 107 (0, 0)) (by (with_reducible repeat (first | refine blk_drewN ?_ _ | refine blk_drew ?_ | refine blk_alloc ?_ _)); exact BK227.out) hb); have n1_ := Aside0.mk (below_step (by repeat (first | (with_reducible first | exact HB.out | apply below_alloc | apply pw_below_drewN | apply below_drew1 | refine below_set ?_ GE227.out) | exact HB.out)) hb); clear BK227; clear HB; have BK227 := n0_; have HB := n1_; clear n0_ n1_; (try clear hb); (try clear hb2); (try clear hk); (try clear hi)))
  go_ret
  exact ⟨by first | rfl | (simp [errW_none, errW_some] <;> rfl) | (simp [*, errW_none, errW_some] <;> rfl), by repeat (first | (with_reducible first | exact HB.out | apply below_alloc | apply pw_below_drewN | apply below_drew1 | refine below_set ?_ GE227.out) | exact HB.out)⟩

end Go.Proofs.YtddbahlofgkoaaaDoor.PA
namespace Go.Proofs.YtddbahlofgkoaaaDoor.PA
open Go.RowKit Go.Proofs.YtddbahlofgkoaaaDoorW.PrintWords Go.Proofs.YtddbahlofgkoaaaDoorW.PrintLast Go.Proofs.YtddbahlofgkoaaaDoorW.PrintMore
attribute [local go_sem] max2_int min2_int max_two min_two max_three min_three max_four min_four   -- for this text's walks alone
set_option linter.unusedVariables false
set_option linter.unusedSimpArgs false

/-! ### spec_l3Edges: function 84 -/
def spec_l3Edges.l0 : Nat → List (S97) → List (S107) → Int → Option ((List (S107)))
 | 0, _, _, _ => none
 | k + 1, x0, x3, x4 => if x4 < (x0.length : Int) then (if 0 ≤ x4 then (if (x0.length : Int) = 0 then (none) else (if 0 ≤ (Int.tmod (wrap64 (x4 + 1)) (x0.length : Int)) then (if (Int.tmod (wrap64 (x4 + 1)) (x0.length : Int)) < (x0.length : Int) then (if x3.length < 4398046511104 then (spec_l3Edges.l0 k x0 (x3 ++ [(⟨(⟨(rd_T97 x0 x4).f0, (rd_T97 x0 x4).f1⟩ : S97), (⟨(rd_T97 x0 (Int.tmod (wrap64 (x4 + 1)) (x0.length : Int))).f0, (rd_T97 x0 (Int.tmod (wrap64 (x4 + 1)) (x0.length : Int))).f1⟩ : S97)⟩ : S107)]) (wrap64 (x4 + 1))) else (none)) else (none)) else (none))) else (none)) else (some x3)
def spec_l3Edges.f (k : Nat) (l0 : List (S97)) : Option ((List (S107))) := spec_l3Edges.l0 k l0 (([] : List (S107))) 0
theorem spec_l3Edges.mono_l : ∀ k, (∀ y0 y1 y2, LeO (spec_l3Edges.l0 k y0 y1 y2) (spec_l3Edges.l0 (k + 1) y0 y1 y2))
 | 0 => fun _ _ _ r h => by simp [spec_l3Edges.l0] at h
 | k + 1 => by
  have ih0 := spec_l3Edges.mono_l k
  ·intro y0 y1 y2; unfold spec_l3Edges.l0; repeat' first
   | (with_reducible exact ih0 _ _ _)
   | (with_reducible exact LeO.refl _)
   | (with_reducible exact LeO.none _)
   | (with_reducible refine LeO.ite ?_ ?_)
   | (with_reducible refine LeO.bind ?_ (fun _ => ?_))
   | exact ih0 _ _ _
   | exact LeO.none _
   | refine LeO.ite ?_ ?_
   | refine LeO.bind ?_ (fun _ => ?_)
theorem spec_l3Edges.mono : ∀ a0 k, LeO (spec_l3Edges.f k a0) (spec_l3Edges.f (k + 1) a0) := by
 intro a0 k; have ih0 := spec_l3Edges.mono_l k; unfold spec_l3Edges.f; repeat' first
   | (with_reducible exact ih0 _ _ _)
   | (with_reducible exact LeO.refl _)
   | (with_reducible exact LeO.none _)
   | (with_reducible refine LeO.ite ?_ ?_)
   | (with_reducible refine LeO.bind ?_ (fun _ => ?_))
   | exact ih0 _ _ _
   | exact LeO.none _
   | refine LeO.ite ?_ ?_
   | refine LeO.bind ?_ (fun _ => ?_)
def spec_l3Edges.T5 : Bool × List (List Nat × List Nat) := (true, [([], []), ([], []), ([], []), ([1, 2], [1, 2]), ([3], [3]), ([], []), ([], []), ([6], [6]), ([], []), ([8], [8]), ([7, 9], [7, 9]), ([5, 10], [5, 10]), ([11], [11]), ([4, 12], [4, 12]), ([13], [13]), ([0, 14], [0, 14]), ([15, 15, 0, 1, 2, 3, 4, 5, 6, 7, 8, 9, 10, 11, 12, 13, 14, 15], [0, 15])])
def spec_l3Edges.B5 : List Nat := [0, 0, 0, 6, 14, 0, 0, 64, 0, 256, 960, 2016, 4064, 8190, 16382, 32767, 65535]
theorem spec_l3Edges.tab5 : rtab .any (opsOf Tryd.f84 5) = spec_l3Edges.T5 := by kernel_rfl
theorem spec_l3Edges.bits5 : waitsOk spec_l3Edges.T5.2 spec_l3Edges.B5 = true := by kernel_rfl
set_option maxHeartbeats 8000000 in
set_option maxRecDepth 100000 in
theorem spec_l3Edges.calls (k : Nat) (A0 : Option Addr) (c0 : Nat) (l0 : List (S97)) (r : List (S107)) (w : World) (hr0 : Kd.C k97 w A0 l0.length l0) (hc0 : l0.length ≤ c0) (h : spec_l3Edges.f k l0 = some r) :
  Calls Tryd.prog 84 #[.slice A0 l0.length c0] w fun e w' => ∃ v0_ : Value, e = .returned (v0_) ∧ Kd.R k107 107 w' w.heap.size (fun _ => True) v0_ r ∧ Below w.heap.size w w' := by
 have hu97 := Tryd.underlying97; have hu107 := Tryd.underlying107; have HR0 := Aside0.mk hr0; have HC0 := Aside0.mk hc0; clear hr0 hc0; have HB := Aside0.mk (Below.refl w.heap.size w); have H : (spec_l3Edges.l0 k l0 (([] : List (S107))) 0) = some r := h; clear h; obtain ⟨y216, hy216⟩ : ∃ y_ : List (S107), y_ = (([] : List (S107))) := ⟨_, rfl⟩; replace H : (spec_l3Edges.l0 k l0 y216 0) = some r := by first | (rw [hy216]; with_reducible exact H) | (have H2_ := (Option.bind_some _ _).symm.trans H; rw [hy216]; with_reducible exact H2_) | (have H2_ := (Option.bind_some _ _).symm.trans H; with_reducible exact H2_) | with_reducible exact H | (rw [hy216]; exact H) | exact H
 have Ny216 := Aside0.mk hy216; clear hy216; have H' := Aside0.mk H; clear H; go_enter Tryd.func84, Tryd.ntmps84
 go_wp2_with (first | ((with_reducible refine gate_dst (N := 5) rfl ?_); refine Kd.R_lit k107 _ 107 ?hg (N := 5) ?hd (xs := ([] : List (S107))) (inner := []) (ok := fun _ => True) (okp := fun _ => True) ?hr ?hp (fun _ hk => hk) trivial (Below.refl _ _) (Nat.le_refl _) (by simp) ?_; (case hd => rfl); (case hg => rfl); (case hr => first | (go_simp; done) | (go_simp; rfl)); (case hp => exact (Reps.none _ _)); intro v217 w2 ho3 hb hg_ hnew_; clear hg_ hnew_; (first | rw [← Ny216.out] at ho3 | (simp only [Int.reduceToNat] at ho3; rw [← Ny216.out] at ho3)); have n0_ := Aside0.mk (Kd.R_lower ho3 (below_size (by repeat (first | (with_reducible first | exact HB.out | apply below_alloc | apply pw_below_drewN | apply below_drew1) | exact HB.out)))); have n1_ := Aside0.mk (below_step (by repeat (first | (with_reducible first | exact HB.out | apply below_alloc | apply pw_below_drewN | apply below_drew1) | exact HB.out)) hb); clear HB; have HO218 := n0_; have HB := n1_; clear n0_ n1_; clear hb ho3))
 go_loopg [3, 4] k (fun kq v3 v4 w' => ∃ (x3_1 : List (S107)) (x4_1 : Int), v4 = .int .i64 x4_1 ∧ Aside0 (spec_l3Edges.l0 kq l0 x3_1 x4_1 = some r) ∧ Aside0 (kq ≤ k) ∧ Aside0 (Kd.R k107 107 w' w.heap.size (fun _ => True) v3 x3_1) ∧ Aside0 (Below w.heap.size w w'))
 case atStart => exact ⟨(y216), (0), (by first | rfl | (simp; done) | (simp [*]; done)), H', ⟨Nat.le_refl _⟩, ⟨by (with_reducible repeat (first | apply Kd.R_alloc | apply Kd.R_drewN | apply Kd.R_drew)); exact HO218.out⟩, ⟨by repeat (first | (with_reducible first | exact HB.out | apply below_alloc | apply pw_below_drewN | apply below_drew1) | exact HB.out)⟩⟩
 case round =>
  clear H'; try clear p2
  obtain ⟨x3_1, x4_1, rfl, HA, HK1, HO_3, HB⟩ := hrel; cases gk with
  | zero => exact absurd HA.out (by simp [spec_l3Edges.l0])
  | succ k1 =>
   have H := HA.out; clear HA; simp only [spec_l3Edges.l0] at H; by_cases c4 : x4_1 < (l0.length : Int)
   ·rw [if_pos c4] at H; have c4b0 : decide (x4_1 < (l0.length : Int)) = true := decide_eq_true c4; clear c4; by_cases c5 : 0 ≤ x4_1
    ·rw [if_pos c5] at H; have c5b0 : decide (0 ≤ x4_1) = true := decide_eq_true c5; clear c5; by_cases c6 : (l0.length : Int) = 0
     ·rw [if_pos c6] at H; exact absurd H (by simp)
     ·rw [if_neg c6] at H; have c6b0 : ((l0.length : Int) == 0) = false := beq_eq_false_iff_ne.mpr c6; have c6b1 : ((l0.length : Int) != 0) = true := bne_iff_ne.mpr c6; have c6b2 : ¬ (l0 = []) := fun h_ => c6 (by rw [h_]; rfl)
      obtain ⟨ji7, hji7⟩ : ∃ j_ : Int, (Int.tmod (wrap64 (x4_1 + 1)) (l0.length : Int)) = j_ := ⟨_, rfl⟩; replace H : (if 0 ≤ (ji7) then (if (ji7) < (l0.length : Int) then (if x3_1.length < 4398046511104 then (spec_l3Edges.l0 k1 l0 (x3_1 ++ [(⟨(⟨(rd_T97 l0 x4_1).f0, (rd_T97 l0 x4_1).f1⟩ : S97), (⟨(rd_T97 l0 (ji7)).f0, (rd_T97 l0 (ji7)).f1⟩ : S97)⟩ : S107)]) (wrap64 (x4_1 + 1))) else (none)) else (none)) else (none)) = some r := by first | (rw [hji7] at H; exact H) | (simp only [hji7] at H ⊢; exact H)
      by_cases c8 : 0 ≤ (ji7)
      ·rw [if_pos c8] at H; have c8b0 : decide (0 ≤ (ji7)) = true := decide_eq_true c8; clear c8; by_cases c9 : (ji7) < (l0.length : Int)
       ·rw [if_pos c9] at H; have c9b0 : decide ((ji7) < (l0.length : Int)) = true := decide_eq_true c9; clear c9; by_cases c10 : x3_1.length < 4398046511104
        ·rw [if_pos c10] at H; have LMc10 := Aside0.mk c10; clear c10; obtain ⟨y221, hy221⟩ : ∃ y_ : List (S107), y_ = (x3_1 ++ [(⟨(⟨(rd_T97 l0 x4_1).f0, (rd_T97 l0 x4_1).f1⟩ : S97), (⟨(rd_T97 l0 (ji7)).f0, (rd_T97 l0 (ji7)).f1⟩ : S97)⟩ : S107)]) := ⟨_, rfl⟩; replace H : (spec_l3Edges.l0 k1 l0 y221 (wrap64 (x4_1 + 1))) = some r := by first | (rw [hy221]; with_reducible exact H) | (have H2_ := (Option.bind_some _ _).symm.trans H; rw [hy221]; with_reducible exact H2_) | (have H2_ := (Option.bind_some _ _).symm.trans H; with_reducible exact H2_) | with_reducible exact H | (rw [hy221]; exact H) | exact H
         have Ny221 := Aside0.mk hy221; clear hy221; have H' := Aside0.mk H; clear H; try go_wp2
         have n0_ := Aside0.mk (Kd.R_drew HO_3.out); have n1_ := Aside0.mk (below_drew1 HB.out); clear HO_3; clear HB; have HO_3 := n0_; have HB := n1_; clear n0_ n1_; have p219 : 0 ≤ (x4_1 : Int) := of_decide_eq_true (by first | (with_reducible assumption) | assumption); have q219 : x4_1 < (l0.length : Int) := of_decide_eq_true (by first | (with_reducible assumption) | assumption); obtain ⟨ad219, e219, hx219_0, hx219_1⟩ := at_T97 HR0.out x4_1 p219 q219; have hw219_1 := hx219_1; have hw219_0 := hx219_0; cases e219; replace hx219_0 := (HB.out.cell (World.block_lt_of_cell? w _ hx219_0)).trans hx219_0; replace hx219_1 := (HB.out.cell (World.block_lt_of_cell? w _ hx219_1)).trans hx219_1; replace p219 := eq_true p219; replace q219 := eq_true q219; have p220 : 0 ≤ ((ji7) : Int) := of_decide_eq_true (by first | (with_reducible assumption) | assumption); have q220 : (ji7) < (l0.length : Int) := of_decide_eq_true (by first | (with_reducible assumption) | assumption); obtain ⟨ad220, e220, hx220_0, hx220_1⟩ := at_T97 HR0.out (ji7) p220 q220; have hw220_1 := hx220_1; have hw220_0 := hx220_0; obtain rfl : ad219 = ad220 := (by injection e220); replace hx220_0 := (HB.out.cell (World.block_lt_of_cell? w _ hx220_0)).trans hx220_0; replace hx220_1 := (HB.out.cell (World.block_lt_of_cell? w _ hx220_1)).trans hx220_1; replace p220 := eq_true p220; replace q220 := eq_true q220; refine start_ (n := 17) (S := fun w' => w'.cell? (ad219.add ((x4_1).toNat * 2)) = some (.int .i64 ((rd_T97 l0 x4_1).f0)) ∧ w'.cell? ⟨(ad219.add ((x4_1).toNat * 2)).block, (ad219.add ((x4_1).toNat * 2)).off + 1, none⟩ = some (.int .i64 ((rd_T97 l0 x4_1).f1)) ∧ w'.cell? (ad219.add (((ji7)).toNat * 2)) = some (.int .i64 ((rd_T97 l0 (ji7)).f0)) ∧ w'.cell? ⟨(ad219.add (((ji7)).toNat * 2)).block, (ad219.add (((ji7)).toNat * 2)).off + 1, none⟩ = some (.int .i64 ((rd_T97 l0 (ji7)).f1))) (ds := []) #[false, false, false, false, false, false, false, false, false, false, false, false, false, false, false, false, false] (by kernel_rfl) rfl rfl ⟨((HB.out.cell (World.block_lt_of_cell? w _ hw219_0)).trans hw219_0), ((HB.out.cell (World.block_lt_of_cell? w _ hw219_1)).trans hw219_1), ((HB.out.cell (World.block_lt_of_cell? w _ hw220_0)).trans hw220_0), ((HB.out.cell (World.block_lt_of_cell? w _ hw220_1)).trans hw220_1)⟩ (fun hHeld => ?_); refine with_tabW spec_l3Edges.tab5 spec_l3Edges.bits5 (fun HT_ HW_ => ?_)
         generalize wr.drew = w11 at HO_3 HB hx219_0 hx219_1 hx220_0 hx220_1 hHeld ⊢
         refine pu_ HT_.out 0 12 {} ?_; refine pu_ HT_.out 1 13 {} ?_; refine pu_ HT_.out 2 14 {} ?_; refine pu_ HT_.out 3 15 {} ?_; refine pu_ HT_.out 5 17 {} ?_; refine pu_ HT_.out 6 18 {} ?_; refine pu_ HT_.out 7 19 {} ?_; refine pu_ HT_.out 8 20 {} ?_; refine pu_ HT_.out 9 21 {} ?_; refine pu_ HT_.out 10 22 {} ?_; refine pu_ HT_.out 11 23 {} ?_; refine tk_ HT_.out HW_.out 4 16 hHeld {} ?_; refine tk_ HT_.out HW_.out 12 24 hHeld {} ?_; refine pu_ HT_.out 13 25 {} ?_
         refine one_ (i := 14) (N := some 26) #[true, true, true, true, true, true, true, true, true, true, true, true, true, true, true, false, false] rfl rfl (one_of HT_.out (by kernel_rfl)) (by decide) (fun K hK => ?_); refine value_ (w1 := ?_) (v := ?_) (by rfl) rfl ?_ ?_; rotate_left 2
         ·go_simp; constructor
          ·rfl
          ·rfl
         refine hK.out _ _ ⟨(World.cell?_alloc_lt _ _ _ (World.block_lt_of_cell? _ _ (((HB.out.cell (World.block_lt_of_cell? w _ hw219_0)).trans hw219_0)))).trans (((HB.out.cell (World.block_lt_of_cell? w _ hw219_0)).trans hw219_0)), (World.cell?_alloc_lt _ _ _ (World.block_lt_of_cell? _ _ (((HB.out.cell (World.block_lt_of_cell? w _ hw219_1)).trans hw219_1)))).trans (((HB.out.cell (World.block_lt_of_cell? w _ hw219_1)).trans hw219_1)), (World.cell?_alloc_lt _ _ _ (World.block_lt_of_cell? _ _ (((HB.out.cell (World.block_lt_of_cell? w _ hw220_0)).trans hw220_0)))).trans (((HB.out.cell (World.block_lt_of_cell? w _ hw220_0)).trans hw220_0)), (World.cell?_alloc_lt _ _ _ (World.block_lt_of_cell? _ _ (((HB.out.cell (World.block_lt_of_cell? w _ hw220_1)).trans hw220_1)))).trans (((HB.out.cell (World.block_lt_of_cell? w _ hw220_1)).trans hw220_1))⟩ (fun hHeld => ?_); clear hK K; refine norm_ (a' := ?_) ?_ ?_; rotate_left; ·show Act.put _ (some 26) _ = _; simp only [Act.put, Geo.sa_, Geo.sb_, Geo.sc_, i64_w, i32_w]; rfl
         refine one_ (i := 15) (N := some 27) #[true, true, true, true, true, true, true, true, true, true, true, true, true, true, true, true, false] rfl rfl (one_of HT_.out (by kernel_rfl)) (by decide) (fun K hK => ?_); refine Kd.R_append_step k107 (w0 := w) w.heap.size (by rfl) (.tmp 12) (.tmp 26) 74 107 (.agg #[(.int .i64 0), (.int .i64 0), (.int .i64 0), (.int .i64 0)]) 32 rfl Tryd.underlying74 info107 rfl (by decide) (by omega) u3 x3_1 (⟨(⟨(rd_T97 l0 x4_1).f0, (rd_T97 l0 x4_1).f1⟩ : S97), (⟨(rd_T97 l0 (ji7)).f0, (rd_T97 l0 (ji7)).f1⟩ : S97)⟩ : S107) [.int .i64 ((rd_T97 l0 x4_1).f0), .int .i64 ((rd_T97 l0 x4_1).f1), .int .i64 ((rd_T97 l0 (ji7)).f0), .int .i64 ((rd_T97 l0 (ji7)).f1)] (fun _ => True) (fun _ => False) rfl rfl ?aP (fun _ hk => hk.elim) ?aF ?aO ?aB ?aS ?aL ?_; (case aP => exact k107_mkM _ _ _ (⟨(⟨(rd_T97 l0 x4_1).f0, (rd_T97 l0 x4_1).f1⟩ : S97), (⟨(rd_T97 l0 (ji7)).f0, (rd_T97 l0 (ji7)).f1⟩ : S97)⟩ : S107))
         (case aB => exact (by repeat (first | (with_reducible first | exact HB.out | apply below_alloc | apply pw_below_drewN | apply below_drew1) | exact HB.out)))
         (case aF => exact (fun _ _ => trivial))
         (case aO => exact (by (with_reducible repeat (first | apply Kd.R_alloc | apply Kd.R_drewN | apply Kd.R_drew)); exact HO_3.out))
         (case aS => exact (below_size (by repeat (first | (with_reducible first | exact HB.out | apply below_alloc | apply pw_below_drewN | apply below_drew1) | exact HB.out))))
         (case aL => have := LMc10.out; omega)
         intro v222 w12 ho hb hg hat; rw [← Ny221.out] at ho; have n0_ := Aside0.mk (hb); have n1_ := Aside0.mk (ho); clear HB; clear HO_3; have HB := n0_; have HO223 := n1_; clear n0_ n1_; clear ho hb hg hat; refine hK.out _ _ ⟨((HB.out.cell (World.block_lt_of_cell? w _ hw219_0)).trans hw219_0), ((HB.out.cell (World.block_lt_of_cell? w _ hw219_1)).trans hw219_1), ((HB.out.cell (World.block_lt_of_cell? w _ hw220_0)).trans hw220_0), ((HB.out.cell (World.block_lt_of_cell? w _ hw220_1)).trans hw220_1)⟩ (fun hHeld => ?_); clear hK K; refine norm_ (a' := ?_) ?_ ?_; rotate_left; ·show Act.put _ (some 27) _ = _; simp only [Act.put, Geo.sa_, Geo.sb_, Geo.sc_, i64_w, i32_w]; rfl
         refine pu_ HT_.out 16 3 {} ?_
         refine done_ (done_of HT_.out (by kernel_rfl)) ?_; try go_wp2
         go_roundg k1
         case measure => have := HK1.out; omega
         case rel => exact ⟨(y221), (wrap64 (x4_1 + 1)), (by first | rfl | (simp; done) | (simp [*]; done)), H', ⟨by have := HK1.out; omega⟩, ⟨by (with_reducible repeat (first | apply Kd.R_alloc | apply Kd.R_drewN | apply Kd.R_drew)); exact HO223.out⟩, ⟨by repeat (first | (with_reducible first | exact HB.out | apply below_alloc | apply pw_below_drewN | apply below_drew1) | exact HB.out)⟩⟩
        ·rw [if_neg c10] at H; exact absurd H (by simp)
       ·rw [if_neg c9] at H; exact absurd H (by simp)
      ·rw [if_neg c8] at H; exact absurd H (by simp)
    ·rw [if_neg c5] at H; exact absurd H (by simp)
   ·rw [if_neg c4] at H; have c4b0 : decide (x4_1 < (l0.length : Int)) = false := decide_eq_false c4; clear c4; obtain rfl := Option.some.inj H; go_wp2
    go_ret
    exact ⟨_, by first | rfl | (simp [errW_none, errW_some] <;> rfl) | (simp [*, errW_none, errW_some] <;> rfl), by (with_reducible repeat (first | apply Kd.R_alloc | apply Kd.R_drewN | apply Kd.R_drew)); exact HO_3.out, by repeat (first | (with_reducible first | exact HB.out | apply below_alloc | apply pw_below_drewN | apply below_drew1) | exact HB.out)⟩

end Go.Proofs.YtddbahlofgkoaaaDoor.PA
namespace Go.Proofs.YtddbahlofgkoaaaDoor.PA
open Go.RowKit Go.Proofs.YtddbahlofgkoaaaDoorW.PrintWords Go.Proofs.YtddbahlofgkoaaaDoorW.PrintLast Go.Proofs.YtddbahlofgkoaaaDoorW.PrintMore
attribute [local go_sem] max2_int min2_int max_two min_two max_three min_three max_four min_four   -- for this text's walks alone
set_option linter.unusedVariables false
set_option linter.unusedSimpArgs false

/-! ### spec_l2Cross: function 95 -/
def spec_l2Cross.f (a0_0 : Int) (a0_1 : Int) (a1_0 : Int) (a1_1 : Int) (a2_0 : Int) (a2_1 : Int) : Option (Int) := some (wrap64 ((wrap64 ((wrap64 (a1_0 - a0_0)) * (wrap64 (a2_1 - a0_1)))) - (wrap64 ((wrap64 (a1_1 - a0_1)) * (wrap64 (a2_0 - a0_0))))))
set_option maxHeartbeats 8000000 in
set_option maxRecDepth 100000 in
theorem spec_l2Cross.calls (a0_0 : Int) (a0_1 : Int) (a1_0 : Int) (a1_1 : Int) (a2_0 : Int) (a2_1 : Int) (r : Int) (w : World) (h : spec_l2Cross.f a0_0 a0_1 a1_0 a1_1 a2_0 a2_1 = some r) :
  Calls Tryd.prog 95 #[.agg #[.int .i64 a0_0, .int .i64 a0_1], .agg #[.int .i64 a1_0, .int .i64 a1_1], .agg #[.int .i64 a2_0, .int .i64 a2_1]] w fun e w' => e = .returned (.int .i64 r) ∧ Below w.heap.size w w' := by
 have hu97 := Tryd.underlying97; have HB := Aside0.mk (Below.refl w.heap.size w); have H : (some (wrap64 ((wrap64 ((wrap64 (a1_0 - a0_0)) * (wrap64 (a2_1 - a0_1)))) - (wrap64 ((wrap64 (a1_1 - a0_1)) * (wrap64 (a2_0 - a0_0))))))) = some r := h; clear h; obtain rfl := Option.some.inj H; go_enter Tryd.func95, Tryd.ntmps95
 go_wp2_with (first | ((with_reducible refine gate_dst (N := 3) rfl ?_); refine box_event ?hg (N := 3) ?hd (cs := #[.int .i64 a0_0, .int .i64 a0_1]) (t := 97) ?hr ?_; (case hd => rfl); (case hg => rfl); (case hr => first | (go_simp; done) | (go_simp; rfl)); intro gb230 hg w4 hbox hb; have n0_ := Aside0.mk (below_step (by repeat (first | (with_reducible first | exact HB.out | apply below_alloc | apply pw_below_drewN | apply below_drew1) | exact HB.out)) hb); have n1_ := Aside0.mk (hbox); have n2_ := Aside0.mk ((by rw [hg]; exact (below_size (by repeat (first | (with_reducible first | exact HB.out | apply below_alloc | apply pw_below_drewN | apply below_drew1) | exact HB.out))) : w.heap.size ≤ gb230)); have n3_ := Aside0.mk ((by rw [hg]; exact (below_size (by repeat (first | (with_reducible first | exact HB.out | apply below_alloc | apply pw_below_drewN | apply below_drew1) | exact HB.out))) : w.heap.size ≤ gb230)); clear HB; have HB := n0_; have BK230 := n1_; have GW230 := n2_; have GE230 := n3_; clear n0_ n1_ n2_ n3_; clear hb hbox hg) | ((with_reducible refine gate_dst (N := 4) rfl ?_); refine box_event ?hg (N := 4) ?hd (cs := #[.int .i64 a1_0, .int .i64 a1_1]) (t := 97) ?hr ?_; (case hd => rfl); (case hg => rfl); (case hr => first | (go_simp; done) | (go_simp; rfl)); intro gb231 hg w5 hbox hb; have n0_ := Aside0.mk (blk_below (g := gb230) (o := .cells #[.int .i64 a0_0, .int .i64 a0_1] 97 (0, 0)) (by (with_reducible repeat (first | refine blk_drewN ?_ _ | refine blk_drew ?_ | refine blk_alloc ?_ _)); exact BK230.out) hb); have n1_ := Aside0.mk (below_step (by repeat (first | (with_reducible first | exact HB.out | apply below_alloc | apply pw_below_drewN | apply below_drew1 | refine below_set ?_ GE230.out) | exact HB.out)) hb); have n2_ := Aside0.mk (hbox); have n3_ := Aside0.mk ((by rw [hg]; exact (below_size (by repeat (first | (with_reducible first | exact HB.out | apply below_alloc | apply pw_below_drewN | apply below_drew1 | refine below_set ?_ GE230.out) | exact HB.out))) : w.heap.size ≤ gb231)); have n4_ := Aside0.mk ((by rw [hg]; exact (below_size (by repeat (first | (with_reducible first | exact HB.out | apply below_alloc | apply pw_below_drewN | apply below_drew1 | refine below_set ?_ GE230.out) | exact HB.out))) : w.heap.size ≤ gb231)); have n5_ := Aside0.mk ((by rw [hg]; exact Nat.ne_of_lt (blk_lt (g := gb230) (o := .cells #[.int .i64 a0_0, .int .i64 a0_1] 97 (0, 0)) (by (with_reducible repeat (first | refine blk_drewN ?_ _ | refine blk_drew ?_ | refine blk_alloc ?_ _)); exact BK230.out)) : gb230 ≠ gb231)); have n6_ := Aside0.mk ((by rw [hg]; exact Nat.ne_of_gt (blk_lt (g := gb230) (o := .cells #[.int .i64 a0_0, .int .i64 a0_1] 97 (0, 0)) (by (with_reducible repeat (first | refine blk_drewN ?_ _ | refine blk_drew ?_ | refine blk_alloc ?_ _)); exact BK230.out)) : gb231 ≠ gb230)); clear BK230; clear HB; have BK230 := n0_; have HB := n1_; have BK231 := n2_; have GW231 := n3_; have GE231 := n4_; have NB230_231 := n5_; have NB231_230 := n6_; clear n0_ n1_ n2_ n3_ n4_ n5_ n6_; clear hb hbox hg) | ((with_reducible refine gate_dst (N := 5) rfl ?_); refine box_event ?hg (N := 5) ?hd (cs := #[.int .i64 a2_0, .int .i64 a2_1]) (t := 97) ?hr ?_; (case hd => rfl); (case hg => rfl); (case hr => first | (go_simp; done) | (go_simp; rfl)); intro gb232 hg w6 hbox hb; have n0_ := Aside0.mk (blk_below (g := gb230) (o := .cells #[.int .i64 a0_0, .int .i64 a0_1] 97 (0, 0)) (by (with_reducible repeat (first | refine blk_drewN ?_ _ | refine blk_drew ?_ | refine blk_alloc ?_ _)); exact BK230.out) hb); have n1_ := Aside0.mk (blk_below (g := gb231) (o := .cells #[.int .i64 a1_0, .int .i64 a1_1] 97 (0, 0)) (by (with_reducible repeat (first | refine blk_drewN ?_ _ | refine blk_drew ?_ | refine blk_alloc ?_ _)); exact BK231.out) hb); have n2_ := Aside0.mk (below_step (by repeat (first | (with_reducible first | exact HB.out | apply below_alloc | apply pw_below_drewN | apply below_drew1 | refine below_set ?_ GE230.out | refine below_set ?_ GE231.out) | exact HB.out)) hb); have n3_ := Aside0.mk (hbox); have n4_ := Aside0.mk ((by rw [hg]; exact (below_size (by repeat (first | (with_reducible first | exact HB.out | apply below_alloc | apply pw_below_drewN | apply below_drew1 | refine below_set ?_ GE230.out | refine below_set ?_ GE231.out) | exact HB.out))) : w.heap.size ≤ gb232)); have n5_ := Aside0.mk ((by rw [hg]; exact (below_size (by repeat (first | (with_reducible first | exact HB.out | apply below_alloc | apply pw_below_drewN | apply below_drew1 | refine below_set ?_ GE230.out | refine below_set ?_ GE231.out) | exact HB.out))) : w.heap.size ≤ gb232)); have n6_ := Aside0.mk ((by rw [hg]; exact Nat.ne_of_lt (blk_lt (g := gb230) (o := .cells #[.int .i64 a0_0, .int .i64 a0_1] 97 (0, 0)) (by (with_reducible repeat (first | refine blk_drewN ?_ _ | refine blk_drew ?_ | refine blk_alloc ?_ _)); exact BK230.out)) : gb230 ≠ gb232)); have n7_ := Aside0.mk ((by rw [hg]; exact Nat.ne_of_gt (blk_lt (g := gb230) (o := .cells #[.int .i64 a0_0, .int .i64 a0_1] 97 (0, 0)) (by (with_reducible repeat (first | refine blk_drewN ?_ _ | refine blk_drew ?_ | refine blk_alloc ?_ _)); exact BK230.out)) : gb232 ≠ gb230)); have n8_ := Aside0.mk ((by rw [hg]; exact Nat.ne_of_lt (blk_lt (g := gb231) (o := .cells #[.int .i64 a1_0, .int .i64 a1_1] 97 (0, 0)) (by (with_reducible repeat (first | refine blk_drewN ?_ _ | refine blk_drew ?_ | refine blk_alloc ?_ _)); exact BK231.out)) : gb231 ≠ gb232)); have n9_ := Aside0.mk ((by rw [hg]; exact Nat.ne_of_gt (blk_lt (g := gb231) (o := .cells #[.int .i64 a1_0, .int .i64 a1_1] 97 (0, 0)) (by (with_reducible repeat (first | refine blk_drewN ?_ _ | refine blk_drew ?_ | refine blk_alloc ?_ _)); exact BK231.out)) : gb232 ≠ gb231)); clear BK230; clear BK231; clear HB; have BK230 := n0_; have BK231 := n1_; have HB := n2_; have BK232 := n3_; have GW232 := n4_; have GE232 := n5_; have NB230_232 := n6_; have NB232_230 := n7_; have NB231_232 := n8_; have NB232_231 := n9_; clear n0_ n1_ n2_ n3_ n4_ n5_ n6_ n7_ n8_ n9_; clear hb hbox hg; have hnb7 := NB231_230.out; have hnc7 := NB230_231.out; have hnb8 := NB231_232.out; have hnc8 := NB232_231.out; have hcz9_0 : w6.cell? ⟨gb231, 0, none⟩ = some (.int .i64 a1_0) := (blk_cell BK231.out 0).trans rfl; have hcz9_1 : w6.cell? ⟨gb231, 1, none⟩ = some (.int .i64 a1_1) := (blk_cell BK231.out 1).trans rfl; have hfz9_0 := blk_frozen BK231.out 0; have hfz9_1 := blk_frozen BK231.out 1; have hnb10 := NB230_232.out; have hnc10 := NB232_230.out; have hcz11_0 : w6.cell? ⟨gb230, 0, none⟩ = some (.int .i64 a0_0) := (blk_cell BK230.out 0).trans rfl; have hcz11_1 : w6.cell? ⟨gb230, 1, none⟩ = some (.int .i64 a0_1) := (blk_cell BK230.out 1).trans rfl; have hfz11_0 := blk_frozen BK230.out 0; have hfz11_1 := blk_frozen BK230.out 1; have hcz12_0 : w6.cell? ⟨gb232, 0, none⟩ = some (.int .i64 a2_0) := (blk_cell BK232.out 0).trans rfl; have hcz12_1 : w6.cell? ⟨gb232, 1, none⟩ = some (.int .i64 a2_1) := (blk_cell BK232.out 1).trans rfl; have hfz12_0 := blk_frozen BK232.out 0; have hfz12_1 := blk_frozen BK232.out 1))
 go_ret
 exact ⟨by first | rfl | (simp [errW_none, errW_some] <;> rfl) | (simp [*, errW_none, errW_some] <;> rfl), by repeat (first | (with_reducible first | exact HB.out | apply below_alloc | apply pw_below_drewN | apply below_drew1 | refine below_set ?_ GE230.out | refine below_set ?_ GE231.out | refine below_set ?_ GE232.out) | exact HB.out)⟩

end Go.Proofs.YtddbahlofgkoaaaDoor.PA
namespace Go.Proofs.YtddbahlofgkoaaaDoor.PA
open Go.RowKit Go.Proofs.YtddbahlofgkoaaaDoorW.PrintWords Go.Proofs.YtddbahlofgkoaaaDoorW.PrintLast Go.Proofs.YtddbahlofgkoaaaDoorW.PrintMore
attribute [local go_sem] max2_int min2_int max_two min_two max_three min_three max_four min_four   -- for this text's walks alone
set_option linter.unusedVariables false
set_option linter.unusedSimpArgs false

/-! ### spec_l2Dot: function 102 -/
def spec_l2Dot.f (a0_0 : Int) (a0_1 : Int) (a1_0 : Int) (a1_1 : Int) (a2_0 : Int) (a2_1 : Int) : Option (Int) := some (wrap64 ((wrap64 ((wrap64 (a1_0 - a0_0)) * (wrap64 (a2_0 - a0_0)))) + (wrap64 ((wrap64 (a1_1 - a0_1)) * (wrap64 (a2_1 - a0_1))))))
set_option maxHeartbeats 8000000 in
set_option maxRecDepth 100000 in
theorem spec_l2Dot.calls (a0_0 : Int) (a0_1 : Int) (a1_0 : Int) (a1_1 : Int) (a2_0 : Int) (a2_1 : Int) (r : Int) (w : World) (h : spec_l2Dot.f a0_0 a0_1 a1_0 a1_1 a2_0 a2_1 = some r) :
  Calls Tryd.prog 102 #[.agg #[.int .i64 a0_0, .int .i64 a0_1], .agg #[.int .i64 a1_0, .int .i64 a1_1], .agg #[.int .i64 a2_0, .int .i64 a2_1]] w fun e w' => e = .returned (.int .i64 r) ∧ Below w.heap.size w w' := by
 have hu97 := Tryd.underlying97; have HB := Aside0.mk (Below.refl w.heap.size w); have H : (some (wrap64 ((wrap64 ((wrap64 (a1_0 - a0_0)) * (wrap64 (a2_0 - a0_0)))) + (wrap64 ((wrap64 (a1_1 - a0_1)) * (wrap64 (a2_1 - a0_1))))))) = some r := h; clear h; obtain rfl := Option.some.inj H; go_enter Tryd.func102, Tryd.ntmps102
 go_wp2_with (first | ((with_reducible refine gate_dst (N := 3) rfl ?_); refine box_event ?hg (N := 3) ?hd (cs := #[.int .i64 a0_0, .int .i64 a0_1]) (t := 97) ?hr ?_; (case hd => rfl); (case hg => rfl); (case hr => first | (go_simp; done) | (go_simp; rfl)); intro gb233 hg w4 hbox hb; have n0_ := Aside0.mk (below_step (by repeat (first | (with_reducible first | exact HB.out | apply below_alloc | apply pw_below_drewN | apply below_drew1) | exact HB.out)) hb); have n1_ := Aside0.mk (hbox); have n2_ := Aside0.mk ((by rw [hg]; exact (below_size (by repeat (first | (with_reducible first | exact HB.out | apply below_alloc | apply pw_below_drewN | apply below_drew1) | exact HB.out))) : w.heap.size ≤ gb233)); have n3_ := Aside0.mk ((by rw [hg]; exact (below_size (by repeat (first | (with_reducible first | exact HB.out | apply below_alloc | apply pw_below_drewN | apply below_drew1) | exact HB.out))) : w.heap.size ≤ gb233)); clear HB; have HB := n0_; have BK233 := n1_; have GW233 := n2_; have GE233 := n3_; clear n0_ n1_ n2_ n3_; clear hb hbox hg) | ((with_reducible refine gate_dst (N := 4) rfl ?_); refine box_event ?hg (N := 4) ?hd (cs := #[.int .i64 a1_0, .int .i64 a1_1]) (t := 97) ?hr ?_; (case hd => rfl); (case hg => rfl); (case hr => first | (go_simp; done) | (go_simp; rfl)); intro gb234 hg w5 hbox hb; have n0_ := Aside0.mk (blk_below (g := gb233) (o := .cells #[.int .i64 a0_0, .int .i64 a0_1] 97 (0, 0)) (by (with_reducible repeat (first | refine blk_drewN ?_ _ | refine blk_drew ?_ | refine blk_alloc ?_ _)); exact BK233.out) hb); have n1_ := Aside0.mk (below_step (by repeat (first | (with_reducible first | exact HB.out | apply below_alloc | apply pw_below_drewN | apply below_drew1 | refine below_set ?_ GE233.out) | exact HB.out)) hb); have n2_ := Aside0.mk (hbox); have n3_ := Aside0.mk ((by rw [hg]; exact (below_size (by repeat (first | (with_reducible first | exact HB.out | apply below_alloc | apply pw_below_drewN | apply below_drew1 | refine below_set ?_ GE233.out) | exact HB.out))) : w.heap.size ≤ gb234)); have n4_ := Aside0.mk ((by rw [hg]; exact (below_size (by repeat (first | (with_reducible first | exact HB.out | apply below_alloc | apply pw_below_drewN | apply below_drew1 | refine below_set ?_ GE233.out) | exact HB.out))) : w.heap.size ≤ gb234)); have n5_ := Aside0.mk ((by rw [hg]; exact Nat.ne_of_lt (blk_lt (g := gb233) (o := .cells #[.int .i64 a0_0, .int .i64 a0_1] 97 (0, 0)) (by (with_reducible repeat (first | refine blk_drewN ?_ _ | refine blk_drew ?_ | refine blk_alloc ?_ _)); exact BK233.out)) : gb233 ≠ gb234)); have n6_ := Aside0.mk ((by rw [hg]; exact Nat.ne_of_gt (blk_lt (g := gb233) (o := .cells #[.int .i64 a0_0, .int .i64 a0_1] 97 (0, 0)) (by (with_reducible repeat (first | refine blk_drewN ?_ _ | refine blk_drew ?_ | refine blk_alloc ?_ _)); exact BK233.out)) : gb234 ≠ gb233)); clear BK233; clear HB; have BK233 := n0_; have HB := n1_; have BK234 := n2_; have GW234 := n3_; have GE234 := n4_; have NB233_234 := n5_; have NB234_233 := n6_; clear n0_ n1_ n2_ n3_ n4_ n5_ n6_; clear hb hbox hg) | ((with_reducible refine gate_dst (N := 5) rfl ?_); refine box_event ?hg (N := 5) ?hd (cs := #[.int .i64 a2_0, .int .i64 a2_1]) (t := 97) ?hr ?_; (case hd => rfl); (case hg => rfl); (case hr => first | (go_simp; done) | (go_simp; rfl)); intro gb235 hg w6 hbox hb; have n0_ := Aside0.mk (blk_below (g := gb233) (o := .cells #[.int .i64 a0_0, .int .i64 a0_1] 97 (0, 0)) (by (with_reducible repeat (first | refine blk_drewN ?_ _ | refine blk_drew ?_ | refine blk_alloc ?_ _)); exact BK233.out) hb); have n1_ := Aside0.mk (blk_below (g := gb234) (o := .cells #[.int .i64 a1_0, .int .i64 a1_1] 97 (0, 0)) (by (with_reducible repeat (first | refine blk_drewN ?_ _ | refine blk_drew ?_ | refine blk_alloc ?_ _)); exact BK234.out) hb); have n2_ := Aside0.mk (below_step (by repeat (first | (with_reducible first | exact HB.out | apply below_alloc | apply pw_below_drewN | apply below_drew1 | refine below_set ?_ GE233.out | refine below_set ?_ GE234.out) | exact HB.out)) hb); have n3_ := Aside0.mk (hbox); have n4_ := Aside0.mk ((by rw [hg]; exact (below_size (by repeat (first | (with_reducible first | exact HB.out | apply below_alloc | apply pw_below_drewN | apply below_drew1 | refine below_set ?_ GE233.out | refine below_set ?_ GE234.out) | exact HB.out))) : w.heap.size ≤ gb235)); have n5_ := Aside0.mk ((by rw [hg]; exact (below_size (by repeat (first | (with_reducible first | exact HB.out | apply below_alloc | apply pw_below_drewN | apply below_drew1 | refine below_set ?_ GE233.out | refine below_set ?_ GE234.out) | exact HB.out))) : w.heap.size ≤ gb235)); have n6_ := Aside0.mk ((by rw [hg]; exact Nat.ne_of_lt (blk_lt (g := gb233) (o := .cells #[.int .i64 a0_0, .int .i64 a0_1] 97 (0, 0)) (by (with_reducible repeat (first | refine blk_drewN ?_ _ | refine blk_drew ?_ | refine blk_alloc ?_ _)); exact BK233.out)) : gb233 ≠ gb235)); have n7_ := Aside0.mk ((by rw [hg]; exact Nat.ne_of_gt (blk_lt (g := gb233) (o := .cells #[.int .i64 a0_0, .int .i64 a0_1] 97 (0, 0)) (by (with_reducible repeat (first | refine blk_drewN ?_ _ | refine blk_drew ?_ | refine blk_alloc ?_ _)); exact BK233.out)) : gb235 ≠ gb233)); have n8_ := Aside0.mk ((by rw [hg]; exact Nat.ne_of_lt (blk_lt (g := gb234) (o := .cells #[.int .i64 a1_0, .int .i64 a1_1] 97 (0, 0)) (by (with_reducible repeat (first | refine blk_drewN ?_ _ | refine blk_drew ?_ | refine blk_alloc ?_ _)); exact BK234.out)) : gb234 ≠ gb235)); have n9_ := Aside0.mk ((by rw [hg]; exact Nat.ne_of_gt (blk_lt (g := gb234) (o := .cells #[.int .i64 a1_0, .int .i64 a1_1] 97 (0, 0)) (by (with_reducible repeat (first | refine blk_drewN ?_ _ | refine blk_drew ?_ | refine blk_alloc ?_ _)); exact BK234.out)) : gb235 ≠ gb234)); clear BK233; clear BK234; clear HB; have BK233 := n0_; have BK234 := n1_; have HB := n2_; have BK235 := n3_; have GW235 := n4_; have GE235 := n5_; have NB233_235 := n6_; have NB235_233 := n7_; have NB234_235 := n8_; have NB235_234 := n9_; clear n0_ n1_ n2_ n3_ n4_ n5_ n6_ n7_ n8_ n9_; clear hb hbox hg; have hnb7 := NB234_233.out; have hnc7 := NB233_234.out; have hnb8 := NB234_235.out; have hnc8 := NB235_234.out; have hcz9_0 : w6.cell? ⟨gb234, 0, none⟩ = some (.int .i64 a1_0) := (blk_cell BK234.out 0).trans rfl; have hcz9_1 : w6.cell? ⟨gb234, 1, none⟩ = some (.int .i64 a1_1) := (blk_cell BK234.out 1).trans rfl; have hfz9_0 := blk_frozen BK234.out 0; have hfz9_1 := blk_frozen BK234.out 1; have hnb10 := NB233_235.out; have hnc10 := NB235_233.out; have hcz11_0 : w6.cell? ⟨gb233, 0, none⟩ = some (.int .i64 a0_0) := (blk_cell BK233.out 0).trans rfl; have hcz11_1 : w6.cell? ⟨gb233, 1, none⟩ = some (.int .i64 a0_1) := (blk_cell BK233.out 1).trans rfl; have hfz11_0 := blk_frozen BK233.out 0; have hfz11_1 := blk_frozen BK233.out 1; have hcz12_0 : w6.cell? ⟨gb235, 0, none⟩ = some (.int .i64 a2_0) := (blk_cell BK235.out 0).trans rfl; have hcz12_1 : w6.cell? ⟨gb235, 1, none⟩ = some (.int .i64 a2_1) := (blk_cell BK235.out 1).trans rfl; have hfz12_0 := blk_frozen BK235.out 0; have hfz12_1 := blk_frozen BK235.out 1))
 go_ret
 exact ⟨by first | rfl | (simp [errW_none, errW_some] <;> rfl) | (simp [*, errW_none, errW_some] <;> rfl), by repeat (first | (with_reducible first | exact HB.out | apply below_alloc | apply pw_below_drewN | apply below_drew1 | refine below_set ?_ GE233.out | refine below_set ?_ GE234.out | refine below_set ?_ GE235.out) | exact HB.out)⟩

/-! ### spec_l2Sign: function 103 -/
def spec_l2Sign.f (a0 : Int) : Option (Int) := if a0 < 0 then (some (-1)) else (if a0 > 0 then (some 1) else (some 0))
set_option maxHeartbeats 8000000 in
set_option maxRecDepth 100000 in
theorem spec_l2Sign.calls (a0 : Int) (r : Int) (w : World) (h : spec_l2Sign.f a0 = some r) :
  Calls Tryd.prog 103 #[.int .i64 a0] w fun e w' => e = .returned (.int .i64 r) ∧ Drawn0 w w' := by
 have H : (if a0 < 0 then (some (-1)) else (if a0 > 0 then (some 1) else (some 0))) = some r := h; clear h; by_cases c2 : a0 < 0
 ·rw [if_pos c2] at H; have c2b0 : decide (a0 < 0) = true := decide_eq_true c2; clear c2; obtain rfl := Option.some.inj H; go_enter Tryd.func103, Tryd.ntmps103
  go_wp2
  go_ret
  exact ⟨by first | rfl | (simp; done) | (simp [*]; done), by repeat (first | exact Drawn0.refl _ | apply Drawn0.step)⟩
 ·rw [if_neg c2] at H; have c2b0 : decide (a0 < 0) = false := decide_eq_false c2; clear c2; by_cases c3 : a0 > 0
  ·rw [if_pos c3] at H; have c3b0 : decide (0 < a0) = true := decide_eq_true c3; clear c3; obtain rfl := Option.some.inj H; go_enter Tryd.func103, Tryd.ntmps103
   go_wp2
   go_ret
   exact ⟨by first | rfl | (simp; done) | (simp [*]; done), by repeat (first | exact Drawn0.refl _ | apply Drawn0.step)⟩
  ·rw [if_neg c3] at H; have c3b0 : decide (0 < a0) = false := decide_eq_false c3; clear c3; obtain rfl := Option.some.inj H; go_enter Tryd.func103, Tryd.ntmps103
   go_wp2
   go_ret
   exact ⟨by first | rfl | (simp; done) | (simp [*]; done), by repeat (first | exact Drawn0.refl _ | apply Drawn0.step)⟩

end Go.Proofs.YtddbahlofgkoaaaDoor.PA
namespace Go.Proofs.YtddbahlofgkoaaaDoor.PA
open Go.RowKit Go.Proofs.YtddbahlofgkoaaaDoorW.PrintWords Go.Proofs.YtddbahlofgkoaaaDoorW.PrintLast Go.Proofs.YtddbahlofgkoaaaDoorW.PrintMore
attribute [local go_sem] max2_int min2_int max_two min_two max_three min_three max_four min_four   -- for this text's walks alone
set_option linter.unusedVariables false
set_option linter.unusedSimpArgs false

/-! ### spec_l2Has: function 86 -/
def spec_l2Has.f (a0_0 : Int) (a0_1 : Int) (a0_2 : Int) (a0_3 : Int) (a1_0 : Int) (a1_1 : Int) : Option (Bool) := (spec_l2Cross.f a0_0 a0_1 a0_2 a0_3 a1_0 a1_1).bind fun t238 => (if t238 = 0 then ((spec_l2Dot.f a0_0 a0_1 a0_2 a0_3 a1_0 a1_1).bind fun t239 => ((spec_l2Dot.f a0_0 a0_1 a0_2 a0_3 a0_2 a0_3).bind fun t240 => ((spec_l6In.f t239 0 t240).bind fun t241 => (some t241)))) else (some false))
def spec_l2Has.T1 : Bool × List (List Nat × List Nat) := (true, [([], []), ([0], [0]), ([], []), ([2], [2]), ([], []), ([1, 3, 4], [1, 3, 4]), ([5], [5]), ([6, 5], [6]), ([7], [7]), ([8, 7], [7, 8]), ([7], [7]), ([10, 7], [7, 10]), ([7], [7]), ([9, 11, 12, 7, 7], [7, 9, 11, 12]), ([7], [7]), ([14, 7], [7, 14]), ([7], [7]), ([16, 7], [7, 16]), ([7], [7]), ([18, 7], [7, 18]), ([15, 17, 19, 13, 7], [7, 15, 17, 19]), ([13, 20, 20, 7], [7, 13, 20]), ([7, 21], [7, 21]), ([22, 21, 0, 1, 2, 3, 4, 5, 6, 7, 8, 9, 10, 11, 12, 13, 14, 15, 16, 17, 18, 19, 20, 21, 22], [22])])
def spec_l2Has.B1 : List Nat := [0, 1, 0, 4, 0, 31, 63, 127, 255, 511, 255, 1279, 255, 8191, 255, 16639, 255, 65791, 255, 262399, 1048575, 2097151, 4194303, 8388607]
theorem spec_l2Has.tab1 : rtab .any (opsOf Tryd.f86 1) = spec_l2Has.T1 := by kernel_rfl
theorem spec_l2Has.bits1 : waitsOk spec_l2Has.T1.2 spec_l2Has.B1 = true := by kernel_rfl
set_option maxHeartbeats 8000000 in
set_option maxRecDepth 100000 in
theorem spec_l2Has.calls (a0_0 : Int) (a0_1 : Int) (a0_2 : Int) (a0_3 : Int) (a1_0 : Int) (a1_1 : Int) (r : Bool) (w : World) (h : spec_l2Has.f a0_0 a0_1 a0_2 a0_3 a1_0 a1_1 = some r) :
  Calls Tryd.prog 86 #[.agg #[.int .i64 a0_0, .int .i64 a0_1, .int .i64 a0_2, .int .i64 a0_3], .agg #[.int .i64 a1_0, .int .i64 a1_1]] w fun e w' => e = .returned (.bool r) ∧ Below w.heap.size w w' := by
 have hu107 := Tryd.underlying107; have hu97 := Tryd.underlying97; have HB := Aside0.mk (Below.refl w.heap.size w); have H : ((spec_l2Cross.f a0_0 a0_1 a0_2 a0_3 a1_0 a1_1).bind fun t238 => (if t238 = 0 then ((spec_l2Dot.f a0_0 a0_1 a0_2 a0_3 a1_0 a1_1).bind fun t239 => ((spec_l2Dot.f a0_0 a0_1 a0_2 a0_3 a0_2 a0_3).bind fun t240 => ((spec_l6In.f t239 0 t240).bind fun t241 => (some t241)))) else (some false))) = some r := h; clear h; replace H := Option.bind_eq_some_iff.mp H; obtain ⟨t238, A30, H⟩ := H; replace H : (if t238 = 0 then ((spec_l2Dot.f a0_0 a0_1 a0_2 a0_3 a1_0 a1_1).bind fun t239 => ((spec_l2Dot.f a0_0 a0_1 a0_2 a0_3 a0_2 a0_3).bind fun t240 => ((spec_l6In.f t239 0 t240).bind fun t241 => (some t241)))) else (some false)) = some r := H; have A3 := Aside0.mk A30; clear A30; by_cases c4 : t238 = 0
 ·rw [if_pos c4] at H; have c4b0 : (t238 == 0) = true := beq_iff_eq.mpr c4; have c4b1 : (t238 != 0) = false := bne_eq_false_iff_eq.mpr c4; clear c4; replace H := Option.bind_eq_some_iff.mp H; obtain ⟨t239, A50, H⟩ := H; replace H : ((spec_l2Dot.f a0_0 a0_1 a0_2 a0_3 a0_2 a0_3).bind fun t240 => ((spec_l6In.f t239 0 t240).bind fun t241 => (some t241))) = some r := H; have A5 := Aside0.mk A50; clear A50; replace H := Option.bind_eq_some_iff.mp H; obtain ⟨t240, A60, H⟩ := H; replace H : ((spec_l6In.f t239 0 t240).bind fun t241 => (some t241)) = some r := H; have A6 := Aside0.mk A60; clear A60; replace H := Option.bind_eq_some_iff.mp H; obtain ⟨t241, A70, H⟩ := H; replace H : (some t241) = some r := H; have A7 := Aside0.mk A70; clear A70; obtain rfl := Option.some.inj H; go_enter Tryd.func86, Tryd.ntmps86
  try go_wp2_with (first | ((with_reducible refine gate_dst (N := 2) rfl ?_); refine box_event ?hg (N := 2) ?hd (cs := #[.int .i64 a0_0, .int .i64 a0_1, .int .i64 a0_2, .int .i64 a0_3]) (t := 107) ?hr ?_; (case hd => rfl); (case hg => rfl); (case hr => first | (go_simp; done) | (go_simp; rfl)); intro gb236 hg w8 hbox hb; have n0_ := Aside0.mk (below_step (by repeat (first | (with_reducible first | exact HB.out | apply below_alloc | apply pw_below_drewN | apply below_drew1) | exact HB.out)) hb); have n1_ := Aside0.mk (hbox); have n2_ := Aside0.mk ((by rw [hg]; exact (below_size (by repeat (first | (with_reducible first | exact HB.out | apply below_alloc | apply pw_below_drewN | apply below_drew1) | exact HB.out))) : w.heap.size ≤ gb236)); have n3_ := Aside0.mk ((by rw [hg]; exact (below_size (by repeat (first | (with_reducible first | exact HB.out | apply below_alloc | apply pw_below_drewN | apply below_drew1) | exact HB.out))) : w.heap.size ≤ gb236)); clear HB; have HB := n0_; have BK236 := n1_; have GW236 := n2_; have GE236 := n3_; clear n0_ n1_ n2_ n3_; clear hb hbox hg) | ((with_reducible refine gate_dst (N := 3) rfl ?_); refine box_event ?hg (N := 3) ?hd (cs := #[.int .i64 a1_0, .int .i64 a1_1]) (t := 97) ?hr ?_; (case hd => rfl); (case hg => rfl); (case hr => first | (go_simp; done) | (go_simp; rfl)); intro gb237 hg w9 hbox hb; have n0_ := Aside0.mk (blk_below (g := gb236) (o := .cells #[.int .i64 a0_0, .int .i64 a0_1, .int .i64 a0_2, .int .i64 a0_3] 107 (0, 0)) (by (with_reducible repeat (first | refine blk_drewN ?_ _ | refine blk_drew ?_ | refine blk_alloc ?_ _)); exact BK236.out) hb); have n1_ := Aside0.mk (below_step (by repeat (first | (with_reducible first | exact HB.out | apply below_alloc | apply pw_below_drewN | apply below_drew1 | refine below_set ?_ GE236.out) | exact HB.out)) hb); have n2_ := Aside0.mk (hbox); have n3_ := Aside0.mk ((by rw [hg]; exact (below_size (by repeat (first | (with_reducible first | exact HB.out | apply below_alloc | apply pw_below_drewN | apply below_drew1 | refine below_set ?_ GE236.out) | exact HB.out))) : w.heap.size ≤ gb237)); have n4_ := Aside0.mk ((by rw [hg]; exact (below_size (by repeat (first | (with_reducible first | exact HB.out | apply below_alloc | apply pw_below_drewN | apply below_drew1 | refine below_set ?_ GE236.out) | exact HB.out))) : w.heap.size ≤ gb237)); have n5_ := Aside0.mk ((by rw [hg]; exact Nat.ne_of_lt (blk_lt (g := gb236) (o := .cells #[.int .i64 a0_0, .int .i64 a0_1, .int .i64 a0_2, .int .i64 a0_3] 107 (0, 0)) (by (with_reducible repeat (first | refine blk_drewN ?_ _ | refine blk_drew ?_ | refine blk_alloc ?_ _)); exact BK236.out)) : gb236 ≠ gb237)); have n6_ := Aside0.mk ((by rw [hg]; exact Nat.ne_of_gt (blk_lt (g := gb236) (o := .cells #[.int .i64 a0_0, .int .i64 a0_1, .int .i64 a0_2, .int .i64 a0_3] 107 (0, 0)) (by (with_reducible repeat (first | refine blk_drewN ?_ _ | refine blk_drew ?_ | refine blk_alloc ?_ _)); exact BK236.out)) : gb237 ≠ gb236)); clear BK236; clear HB; have BK236 := n0_; have HB := n1_; have BK237 := n2_; have GW237 := n3_; have GE237 := n4_; have NB236_237 := n5_; have NB237_236 := n6_; clear n0_ n1_ n2_ n3_ n4_ n5_ n6_; clear hb hbox hg))
  have n0_ := Aside0.mk (blk_drew BK236.out); have n1_ := Aside0.mk (blk_drew BK237.out); have n2_ := Aside0.mk (below_drew1 HB.out); clear BK236; clear BK237; clear HB; have BK236 := n0_; have BK237 := n1_; have HB := n2_; clear n0_ n1_ n2_; refine start_ (n := 24) (S := fun w' => w'.cell? ⟨gb236, 0, none⟩ = some (.int .i64 a0_0) ∧ w'.cell? ⟨gb236, 1, none⟩ = some (.int .i64 a0_1) ∧ w'.cell? ⟨gb236, 2, none⟩ = some (.int .i64 a0_2) ∧ w'.cell? ⟨gb236, 3, none⟩ = some (.int .i64 a0_3) ∧ w'.cell? ⟨gb237, 0, none⟩ = some (.int .i64 a1_0) ∧ w'.cell? ⟨gb237, 1, none⟩ = some (.int .i64 a1_1)) (ds := []) #[false, false, false, false, false, false, false, false, false, false, false, false, false, false, false, false, false, false, false, false, false, false, false, false] (by kernel_rfl) rfl rfl ⟨(blk_cell BK236.out 0).trans rfl, (blk_cell BK236.out 1).trans rfl, (blk_cell BK236.out 2).trans rfl, (blk_cell BK236.out 3).trans rfl, (blk_cell BK237.out 0).trans rfl, (blk_cell BK237.out 1).trans rfl⟩ (fun hHeld => ?_); refine with_tabW spec_l2Has.tab1 spec_l2Has.bits1 (fun HT_ HW_ => ?_)
  generalize w9.drew = w10 at BK236 BK237 HB hHeld ⊢
  refine pu_ HT_.out 0 5 {} ?_; refine pu_ HT_.out 2 7 {} ?_; refine tk_ HT_.out HW_.out 1 6 hHeld {} ?_; refine tk_ HT_.out HW_.out 3 8 hHeld {} ?_; refine tk_ HT_.out HW_.out 4 9 hHeld {} ?_
  refine one_ (i := 5) (N := some 10) #[true, true, true, true, true, true, false, false, false, false, false, false, false, false, false, false, false, false, false, false, false, false, false, false] rfl rfl (one_of HT_.out (by kernel_rfl)) (by decide) (fun K hK => ?_); refine goes_ Tryd.func95 (by kernel_rfl) rfl #[.agg #[.int .i64 a0_0, .int .i64 a0_1], .agg #[.int .i64 a0_2, .int .i64 a0_3], .agg #[.int .i64 a1_0, .int .i64 a1_1]] (by rfl) rfl rfl (by (try simp only [List.map_toArray, List.map_cons, List.map_nil]); first | done | rfl | (simp only [List.length_drop, List.length_take]; rfl)) ?_; with_reducible refine (spec_l2Cross.calls a0_0 a0_1 a0_2 a0_3 a1_0 a1_1 t238 _ A3.out).mono ?_
  rintro e w11 ⟨rfl, hb⟩; refine ⟨_, rfl, ?_⟩; have n0_ := Aside0.mk (blk_below (g := gb236) (o := .cells #[.int .i64 a0_0, .int .i64 a0_1, .int .i64 a0_2, .int .i64 a0_3] 107 (0, 0)) (by (with_reducible repeat (first | refine blk_drewN ?_ _ | refine blk_drew ?_ | refine blk_alloc ?_ _)); exact BK236.out) hb); have n1_ := Aside0.mk (blk_below (g := gb237) (o := .cells #[.int .i64 a1_0, .int .i64 a1_1] 97 (0, 0)) (by (with_reducible repeat (first | refine blk_drewN ?_ _ | refine blk_drew ?_ | refine blk_alloc ?_ _)); exact BK237.out) hb); have n2_ := Aside0.mk (below_step (by repeat (first | (with_reducible first | exact HB.out | apply below_alloc | apply pw_below_drewN | apply below_drew1 | refine below_set ?_ GE236.out | refine below_set ?_ GE237.out) | exact HB.out)) hb); clear BK236; clear BK237; clear HB; have BK236 := n0_; have BK237 := n1_; have HB := n2_; clear n0_ n1_ n2_; (try clear hb); (try clear hb2); (try clear hk); (try clear hi); refine hK.out _ _ ⟨(blk_cell BK236.out 0).trans rfl, (blk_cell BK236.out 1).trans rfl, (blk_cell BK236.out 2).trans rfl, (blk_cell BK236.out 3).trans rfl, (blk_cell BK237.out 0).trans rfl, (blk_cell BK237.out 1).trans rfl⟩ (fun hHeld => ?_); clear hK K; refine norm_ (a' := ?_) ?_ ?_; rotate_left; ·show Act.put _ (some 10) _ = _; simp only [Act.put, Geo.sa_, Geo.sb_, Geo.sc_, i64_w, i32_w]; rfl
  refine pu_ HT_.out 6 11 {} ?_; refine pu_ HT_.out 7 12 {} ?_; refine pu_ HT_.out 8 13 {} ?_; refine pu_ HT_.out 10 15 {} ?_; refine pu_ HT_.out 14 19 {} ?_; refine pu_ HT_.out 16 21 {} ?_; refine pu_ HT_.out 18 23 {} ?_; refine tk_ HT_.out HW_.out 9 14 hHeld {} ?_; refine tk_ HT_.out HW_.out 11 16 hHeld {} ?_; refine tk_ HT_.out HW_.out 12 17 hHeld {} ?_; refine tk_ HT_.out HW_.out 15 20 hHeld {} ?_; refine tk_ HT_.out HW_.out 17 22 hHeld {} ?_; refine tk_ HT_.out HW_.out 19 24 hHeld {} ?_
  refine one_ (i := 13) (N := some 18) #[true, true, true, true, true, true, true, true, true, true, true, true, true, true, true, true, true, true, true, true, false, false, false, false] rfl rfl (one_of HT_.out (by kernel_rfl)) (by decide) (fun K hK => ?_); refine goes_ Tryd.func102 (by kernel_rfl) rfl #[.agg #[.int .i64 a0_0, .int .i64 a0_1], .agg #[.int .i64 a0_2, .int .i64 a0_3], .agg #[.int .i64 a1_0, .int .i64 a1_1]] (by rfl) rfl rfl (by (try simp only [List.map_toArray, List.map_cons, List.map_nil]); first | done | rfl | (simp only [List.length_drop, List.length_take]; rfl)) ?_; with_reducible refine (spec_l2Dot.calls a0_0 a0_1 a0_2 a0_3 a1_0 a1_1 t239 _ A5.out).mono ?_
  rintro e w12 ⟨rfl, hb⟩; refine ⟨_, rfl, ?_⟩; have n0_ := Aside0.mk (blk_below (g := gb236) (o := .cells #[.int .i64 a0_0, .int .i64 a0_1, .int .i64 a0_2, .int .i64 a0_3] 107 (0, 0)) (by (with_reducible repeat (first | refine blk_drewN ?_ _ | refine blk_drew ?_ | refine blk_alloc ?_ _)); exact BK236.out) hb); have n1_ := Aside0.mk (blk_below (g := gb237) (o := .cells #[.int .i64 a1_0, .int .i64 a1_1] 97 (0, 0)) (by (with_reducible repeat (first | refine blk_drewN ?_ _ | refine blk_drew ?_ | refine blk_alloc ?_ _)); exact BK237.out) hb); have n2_ := Aside0.mk (below_step (by repeat (first | (with_reducible first | exact HB.out | apply below_alloc | apply pw_below_drewN | apply below_drew1 | refine below_set ?_ GE236.out | refine below_set ?_ GE237.out) | exact HB.out)) hb); clear BK236; clear BK237; clear HB; have BK236 := n0_; have BK237 := n1_; have HB := n2_; clear n0_ n1_ n2_; (try clear hb); (try clear hb2); (try clear hk); (try clear hi); refine hK.out _ _ ⟨(blk_cell BK236.out 0).trans rfl, (blk_cell BK236.out 1).trans rfl, (blk_cell BK236.out 2).trans rfl, (blk_cell BK236.out 3).trans rfl, (blk_cell BK237.out 0).trans rfl, (blk_cell BK237.out 1).trans rfl⟩ (fun hHeld => ?_); clear hK K; refine norm_ (a' := ?_) ?_ ?_; rotate_left; ·show Act.put _ (some 18) _ = _; simp only [Act.put, Geo.sa_, Geo.sb_, Geo.sc_, i64_w, i32_w]; rfl
  refine one_ (i := 20) (N := some 25) #[true, true, true, true, true, true, true, true, true, true, true, true, true, true, true, true, true, true, true, true, true, false, false, false] rfl rfl (one_of HT_.out (by kernel_rfl)) (by decide) (fun K hK => ?_); refine goes_ Tryd.func102 (by kernel_rfl) rfl #[.agg #[.int .i64 a0_0, .int .i64 a0_1], .agg #[.int .i64 a0_2, .int .i64 a0_3], .agg #[.int .i64 a0_2, .int .i64 a0_3]] (by rfl) rfl rfl (by (try simp only [List.map_toArray, List.map_cons, List.map_nil]); first | done | rfl | (simp only [List.length_drop, List.length_take]; rfl)) ?_; with_reducible refine (spec_l2Dot.calls a0_0 a0_1 a0_2 a0_3 a0_2 a0_3 t240 _ A6.out).mono ?_
  rintro e w13 ⟨rfl, hb⟩; refine ⟨_, rfl, ?_⟩; have n0_ := Aside0.mk (blk_below (g := gb236) (o := .cells #[.int .i64 a0_0, .int .i64 a0_1, .int .i64 a0_2, .int .i64 a0_3] 107 (0, 0)) (by (with_reducible repeat (first | refine blk_drewN ?_ _ | refine blk_drew ?_ | refine blk_alloc ?_ _)); exact BK236.out) hb); have n1_ := Aside0.mk (blk_below (g := gb237) (o := .cells #[.int .i64 a1_0, .int .i64 a1_1] 97 (0, 0)) (by (with_reducible repeat (first | refine blk_drewN ?_ _ | refine blk_drew ?_ | refine blk_alloc ?_ _)); exact BK237.out) hb); have n2_ := Aside0.mk (below_step (by repeat (first | (with_reducible first | exact HB.out | apply below_alloc | apply pw_below_drewN | apply below_drew1 | refine below_set ?_ GE236.out | refine below_set ?_ GE237.out) | exact HB.out)) hb); clear BK236; clear BK237; clear HB; have BK236 := n0_; have BK237 := n1_; have HB := n2_; clear n0_ n1_ n2_; (try clear hb); (try clear hb2); (try clear hk); (try clear hi); refine hK.out _ _ ⟨(blk_cell BK236.out 0).trans rfl, (blk_cell BK236.out 1).trans rfl, (blk_cell BK236.out 2).trans rfl, (blk_cell BK236.out 3).trans rfl, (blk_cell BK237.out 0).trans rfl, (blk_cell BK237.out 1).trans rfl⟩ (fun hHeld => ?_); clear hK K; refine norm_ (a' := ?_) ?_ ?_; rotate_left; ·show Act.put _ (some 25) _ = _; simp only [Act.put, Geo.sa_, Geo.sb_, Geo.sc_, i64_w, i32_w]; rfl
  refine one_ (i := 21) (N := some 26) #[true, true, true, true, true, true, true, true, true, true, true, true, true, true, true, true, true, true, true, true, true, true, false, false] rfl rfl (one_of HT_.out (by kernel_rfl)) (by decide) (fun K hK => ?_); refine goes_ Tryd.func50 (by kernel_rfl) rfl #[.int .i64 t239, .int .i64 0, .int .i64 t240] (by rfl) rfl rfl (by (try simp only [List.map_toArray, List.map_cons, List.map_nil]); first | done | rfl | (simp only [List.length_drop, List.length_take]; rfl)) ?_; with_reducible refine (spec_l6In.calls t239 0 t240 t241 _ A7.out).mono ?_
  rintro e w' ⟨rfl, ⟨nd, rfl⟩⟩; refine ⟨_, rfl, ?_⟩; refine hK.out _ _ ⟨(blk_cell BK236.out 0).trans rfl, (blk_cell BK236.out 1).trans rfl, (blk_cell BK236.out 2).trans rfl, (blk_cell BK236.out 3).trans rfl, (blk_cell BK237.out 0).trans rfl, (blk_cell BK237.out 1).trans rfl⟩ (fun hHeld => ?_); clear hK K; refine norm_ (a' := ?_) ?_ ?_; rotate_left; ·show Act.put _ (some 26) _ = _; simp only [Act.put, Geo.sa_, Geo.sb_, Geo.sc_, i64_w, i32_w]; rfl
  refine pu_ HT_.out 22 27 {} ?_; refine pu_ HT_.out 23 4 {} ?_
  refine done_ (done_of HT_.out (by kernel_rfl)) ?_; try go_wp2
  go_ret
  exact ⟨by first | rfl | (simp [errW_none, errW_some] <;> rfl) | (simp [*, errW_none, errW_some] <;> rfl), by repeat (first | (with_reducible first | exact HB.out | apply below_alloc | apply pw_below_drewN | apply below_drew1 | refine below_set ?_ GE236.out | refine below_set ?_ GE237.out) | exact HB.out)⟩
 ·rw [if_neg c4] at H; have c4b0 : (t238 == 0) = false := beq_eq_false_iff_ne.mpr c4; have c4b1 : (t238 != 0) = true := bne_iff_ne.mpr c4; obtain rfl := Option.some.inj H; go_enter Tryd.func86, Tryd.ntmps86
  try go_wp2_with (first | ((with_reducible refine gate_dst (N := 2) rfl ?_); refine box_event ?hg (N := 2) ?hd (cs := #[.int .i64 a0_0, .int .i64 a0_1, .int .i64 a0_2, .int .i64 a0_3]) (t := 107) ?hr ?_; (case hd => rfl); (case hg => rfl); (case hr => first | (go_simp; done) | (go_simp; rfl)); intro gb236 hg w14 hbox hb; have n0_ := Aside0.mk (below_step (by repeat (first | (with_reducible first | exact HB.out | apply below_alloc | apply pw_below_drewN | apply below_drew1) | exact HB.out)) hb); have n1_ := Aside0.mk (hbox); have n2_ := Aside0.mk ((by rw [hg]; exact (below_size (by repeat (first | (with_reducible first | exact HB.out | apply below_alloc | apply pw_below_drewN | apply below_drew1) | exact HB.out))) : w.heap.size ≤ gb236)); have n3_ := Aside0.mk ((by rw [hg]; exact (below_size (by repeat (first | (with_reducible first | exact HB.out | apply below_alloc | apply pw_below_drewN | apply below_drew1) | exact HB.out))) : w.heap.size ≤ gb236)); clear HB; have HB := n0_; have BK236 := n1_; have GW236 := n2_; have GE236 := n3_; clear n0_ n1_ n2_ n3_; clear hb hbox hg) | ((with_reducible refine gate_dst (N := 3) rfl ?_); refine box_event ?hg (N := 3) ?hd (cs := #[.int .i64 a1_0, .int .i64 a1_1]) (t := 97) ?hr ?_; (case hd => rfl); (case hg => rfl); (case hr => first | (go_simp; done) | (go_simp; rfl)); intro gb237 hg w15 hbox hb; have n0_ := Aside0.mk (blk_below (g := gb236) (o := .cells #[.int .i64 a0_0, .int .i64 a0_1, .int .i64 a0_2, .int .i64 a0_3] 107 (0, 0)) (by (with_reducible repeat (first | refine blk_drewN ?_ _ | refine blk_drew ?_ | refine blk_alloc ?_ _)); exact BK236.out) hb); have n1_ := Aside0.mk (below_step (by repeat (first | (with_reducible first | exact HB.out | apply below_alloc | apply pw_below_drewN | apply below_drew1 | refine below_set ?_ GE236.out) | exact HB.out)) hb); have n2_ := Aside0.mk (hbox); have n3_ := Aside0.mk ((by rw [hg]; exact (below_size (by repeat (first | (with_reducible first | exact HB.out | apply below_alloc | apply pw_below_drewN | apply below_drew1 | refine below_set ?_ GE236.out) | exact HB.out))) : w.heap.size ≤ gb237)); have n4_ := Aside0.mk ((by rw [hg]; exact (below_size (by repeat (first | (with_reducible first | exact HB.out | apply below_alloc | apply pw_below_drewN | apply below_drew1 | refine below_set ?_ GE236.out) | exact HB.out))) : w.heap.size ≤ gb237)); have n5_ := Aside0.mk ((by rw [hg]; exact Nat.ne_of_lt (blk_lt (g := gb236) (o := .cells #[.int .i64 a0_0, .int .i64 a0_1, .int .i64 a0_2, .int .i64 a0_3] 107 (0, 0)) (by (with_reducible repeat (first | refine blk_drewN ?_ _ | refine blk_drew ?_ | refine blk_alloc ?_ _)); exact BK236.out)) : gb236 ≠ gb237)); have n6_ := Aside0.mk ((by rw [hg]; exact Nat.ne_of_gt (blk_lt (g := gb236) (o := .cells #[.int .i64 a0_0, .int .i64 a0_1, .int .i64 a0_2, .int .i64 a0_3] 107 (0, 0)) (by (with_reducible repeat (first | refine blk_drewN ?_ _ | refine blk_drew ?_ | refine blk_alloc ?_ _)); exact BK236.out)) : gb237 ≠ gb236)); clear BK236; clear HB; have BK236 := n0_; have HB := n1_; have BK237 := n2_; have GW237 := n3_; have GE237 := n4_; have NB236_237 := n5_; have NB237_236 := n6_; clear n0_ n1_ n2_ n3_ n4_ n5_ n6_; clear hb hbox hg))
  have n0_ := Aside0.mk (blk_drew BK236.out); have n1_ := Aside0.mk (blk_drew BK237.out); have n2_ := Aside0.mk (below_drew1 HB.out); clear BK236; clear BK237; clear HB; have BK236 := n0_; have BK237 := n1_; have HB := n2_; clear n0_ n1_ n2_; refine start_ (n := 24) (S := fun w' => w'.cell? ⟨gb236, 0, none⟩ = some (.int .i64 a0_0) ∧ w'.cell? ⟨gb236, 1, none⟩ = some (.int .i64 a0_1) ∧ w'.cell? ⟨gb236, 2, none⟩ = some (.int .i64 a0_2) ∧ w'.cell? ⟨gb236, 3, none⟩ = some (.int .i64 a0_3) ∧ w'.cell? ⟨gb237, 0, none⟩ = some (.int .i64 a1_0) ∧ w'.cell? ⟨gb237, 1, none⟩ = some (.int .i64 a1_1)) (ds := []) #[false, false, false, false, false, false, false, false, false, false, false, false, false, false, false, false, false, false, false, false, false, false, false, false] (by kernel_rfl) rfl rfl ⟨(blk_cell BK236.out 0).trans rfl, (blk_cell BK236.out 1).trans rfl, (blk_cell BK236.out 2).trans rfl, (blk_cell BK236.out 3).trans rfl, (blk_cell BK237.out 0).trans rfl, (blk_cell BK237.out 1).trans rfl⟩ (fun hHeld => ?_); refine with_tabW spec_l2Has.tab1 spec_l2Has.bits1 (fun HT_ HW_ => ?_)
  generalize w15.drew = w16 at BK236 BK237 HB hHeld ⊢
  refine pu_ HT_.out 0 5 {} ?_; refine pu_ HT_.out 2 7 {} ?_; refine tk_ HT_.out HW_.out 1 6 hHeld {} ?_; refine tk_ HT_.out HW_.out 3 8 hHeld {} ?_; refine tk_ HT_.out HW_.out 4 9 hHeld {} ?_
  refine one_ (i := 5) (N := some 10) #[true, true, true, true, true, true, false, false, false, false, false, false, false, false, false, false, false, false, false, false, false, false, false, false] rfl rfl (one_of HT_.out (by kernel_rfl)) (by decide) (fun K hK => ?_); refine goes_ Tryd.func95 (by kernel_rfl) rfl #[.agg #[.int .i64 a0_0, .int .i64 a0_1], .agg #[.int .i64 a0_2, .int .i64 a0_3], .agg #[.int .i64 a1_0, .int .i64 a1_1]] (by rfl) rfl rfl (by (try simp only [List.map_toArray, List.map_cons, List.map_nil]); first | done | rfl | (simp only [List.length_drop, List.length_take]; rfl)) ?_; with_reducible refine (spec_l2Cross.calls a0_0 a0_1 a0_2 a0_3 a1_0 a1_1 t238 _ A3.out).mono ?_
  rintro e w17 ⟨rfl, hb⟩; refine ⟨_, rfl, ?_⟩; have n0_ := Aside0.mk (blk_below (g := gb236) (o := .cells #[.int .i64 a0_0, .int .i64 a0_1, .int .i64 a0_2, .int .i64 a0_3] 107 (0, 0)) (by (with_reducible repeat (first | refine blk_drewN ?_ _ | refine blk_drew ?_ | refine blk_alloc ?_ _)); exact BK236.out) hb); have n1_ := Aside0.mk (blk_below (g := gb237) (o := .cells #[.int .i64 a1_0, .int .i64 a1_1] 97 (0, 0)) (by (with_reducible repeat (first | refine blk_drewN ?_ _ | refine blk_drew ?_ | refine blk_alloc ?_ _)); exact BK237.out) hb); have n2_ := Aside0.mk (below_step (by repeat (first | (with_reducible first | exact HB.out | apply below_alloc | apply pw_below_drewN | apply below_drew1 | refine below_set ?_ GE236.out | refine below_set ?_ GE237.out) | exact HB.out)) hb); clear BK236; clear BK237; clear HB; have BK236 := n0_; have BK237 := n1_; have HB := n2_; clear n0_ n1_ n2_; (try clear hb); (try clear hb2); (try clear hk); (try clear hi); refine hK.out _ _ ⟨(blk_cell BK236.out 0).trans rfl, (blk_cell BK236.out 1).trans rfl, (blk_cell BK236.out 2).trans rfl, (blk_cell BK236.out 3).trans rfl, (blk_cell BK237.out 0).trans rfl, (blk_cell BK237.out 1).trans rfl⟩ (fun hHeld => ?_); clear hK K; refine norm_ (a' := ?_) ?_ ?_; rotate_left; ·show Act.put _ (some 10) _ = _; simp only [Act.put, Geo.sa_, Geo.sb_, Geo.sc_, i64_w, i32_w]; rfl
  refine pu_ HT_.out 6 11 {} ?_; refine pu_ HT_.out 7 12 {} ?_; refine pv_ HT_.out 8 13 {} ?_; refine pv_ HT_.out 9 14 {} ?_; refine pv_ HT_.out 10 15 {} ?_; refine pv_ HT_.out 11 16 {} ?_; refine pv_ HT_.out 12 17 {} ?_; refine pv_ HT_.out 13 18 {} ?_; refine pv_ HT_.out 14 19 {} ?_; refine pv_ HT_.out 15 20 {} ?_; refine pv_ HT_.out 16 21 {} ?_; refine pv_ HT_.out 17 22 {} ?_; refine pv_ HT_.out 18 23 {} ?_; refine pv_ HT_.out 19 24 {} ?_; refine pv_ HT_.out 20 25 {} ?_; refine pv_ HT_.out 21 26 {} ?_; refine pu_ HT_.out 22 27 {} ?_; refine pu_ HT_.out 23 4 {} ?_
  refine done_ (done_of HT_.out (by kernel_rfl)) ?_; try go_wp2
  go_ret
  exact ⟨by first | rfl | (simp [errW_none, errW_some] <;> rfl) | (simp [*, errW_none, errW_some] <;> rfl), by repeat (first | (with_reducible first | exact HB.out | apply below_alloc | apply pw_below_drewN | apply below_drew1 | refine below_set ?_ GE236.out | refine below_set ?_ GE237.out) | exact HB.out)⟩

end Go.Proofs.YtddbahlofgkoaaaDoor.PA
namespace Go.Proofs.YtddbahlofgkoaaaDoor.PA
open Go.RowKit Go.Proofs.YtddbahlofgkoaaaDoorW.PrintWords Go.Proofs.YtddbahlofgkoaaaDoorW.PrintLast Go.Proofs.YtddbahlofgkoaaaDoorW.PrintMore
attribute [local go_sem] max2_int min2_int max_two min_two max_three min_three max_four min_four   -- for this text's walks alone
set_option linter.unusedVariables false
set_option linter.unusedSimpArgs false

/-! ### spec_l2Meet: function 87 -/
def spec_l2Meet.f (a0_0 : Int) (a0_1 : Int) (a0_2 : Int) (a0_3 : Int) (a1_0 : Int) (a1_1 : Int) (a1_2 : Int) (a1_3 : Int) : Option (Bool) := (spec_l2Cross.f a0_0 a0_1 a0_2 a0_3 a1_0 a1_1).bind fun t244 => ((spec_l2Sign.f t244).bind fun t245 => ((spec_l2Cross.f a0_0 a0_1 a0_2 a0_3 a1_2 a1_3).bind fun t246 => ((spec_l2Sign.f t246).bind fun t247 => ((spec_l2Cross.f a1_0 a1_1 a1_2 a1_3 a0_0 a0_1).bind fun t248 => ((spec_l2Sign.f t248).bind fun t249 => ((spec_l2Cross.f a1_0 a1_1 a1_2 a1_3 a0_2 a0_3).bind fun t250 => ((spec_l2Sign.f t250).bind fun t251 => (if (wrap64 (t245 * t247)) < 0 then (if (wrap64 (t249 * t251)) < 0 then (some true) else ((spec_l2Has.f a0_0 a0_1 a0_2 a0_3 a1_0 a1_1).bind fun t252 => (if t252 = true then (some true) else ((spec_l2Has.f a0_0 a0_1 a0_2 a0_3 a1_2 a1_3).bind fun t253 => (if t253 = true then (some true) else ((spec_l2Has.f a1_0 a1_1 a1_2 a1_3 a0_0 a0_1).bind fun t254 => (if t254 = true then (some true) else ((spec_l2Has.f a1_0 a1_1 a1_2 a1_3 a0_2 a0_3).bind fun t255 => (some t255))))))))) else ((spec_l2Has.f a0_0 a0_1 a0_2 a0_3 a1_0 a1_1).bind fun t256 => (if t256 = true then (some true) else ((spec_l2Has.f a0_0 a0_1 a0_2 a0_3 a1_2 a1_3).bind fun t257 => (if t257 = true then (some true) else ((spec_l2Has.f a1_0 a1_1 a1_2 a1_3 a0_0 a0_1).bind fun t258 => (if t258 = true then (some true) else ((spec_l2Has.f a1_0 a1_1 a1_2 a1_3 a0_2 a0_3).bind fun t259 => (some t259))))))))))))))))
theorem spec_l2Meet.fin9 {a b c d e f g h i : Prop} (x : a ∧ b ∧ c ∧ d ∧ e ∧ f ∧ g ∧ h ∧ i) : i := x.2.2.2.2.2.2.2.2
theorem spec_l2Meet.stepB {n : Nat} {W w1 w' : World} (hz : n ≤ W.heap.size) (h : Below n W w1) (hb : Below w1.heap.size w1 w') : Below n W w' := h.trans (hb.mono (Nat.le_trans hz h.size))
set_option maxHeartbeats 4000000 in
set_option maxRecDepth 100000 in
theorem spec_l2Meet.calls (a0_0 : Int) (a0_1 : Int) (a0_2 : Int) (a0_3 : Int) (a1_0 : Int) (a1_1 : Int) (a1_2 : Int) (a1_3 : Int) (r : Bool) (w : World) (h : spec_l2Meet.f a0_0 a0_1 a0_2 a0_3 a1_0 a1_1 a1_2 a1_3 = some r) :
    Calls Tryd.prog 87 #[.agg #[.int .i64 a0_0, .int .i64 a0_1, .int .i64 a0_2, .int .i64 a0_3], .agg #[.int .i64 a1_0, .int .i64 a1_1, .int .i64 a1_2, .int .i64 a1_3]] w fun e w' => e = .returned (.bool r) ∧ Below w.heap.size w w' := by
  unfold spec_l2Meet.f at h
  obtain ⟨t1, A1, h1⟩ := Option.bind_eq_some_iff.mp h; clear h
  obtain ⟨s1, B1, h2⟩ := Option.bind_eq_some_iff.mp h1; clear h1
  obtain ⟨t2, A2, h3⟩ := Option.bind_eq_some_iff.mp h2; clear h2
  obtain ⟨s2, B2, h4⟩ := Option.bind_eq_some_iff.mp h3; clear h3
  obtain ⟨t3, A3, h5⟩ := Option.bind_eq_some_iff.mp h4; clear h4
  obtain ⟨s3, B3, h6⟩ := Option.bind_eq_some_iff.mp h5; clear h5
  obtain ⟨t4, A4, h7⟩ := Option.bind_eq_some_iff.mp h6; clear h6
  obtain ⟨s4, B4, h⟩ := Option.bind_eq_some_iff.mp h7; clear h7
  have HA1 := Aside0.mk A1; have HA2 := Aside0.mk A2; have HA3 := Aside0.mk A3; have HA4 := Aside0.mk A4
  have HB1 := Aside0.mk B1; have HB2 := Aside0.mk B2; have HB3 := Aside0.mk B3; have HB4 := Aside0.mk B4
  clear A1 A2 A3 A4 B1 B2 B3 B4
  have HH := Aside0.mk h
  clear h
  have hu1 := Tryd.underlying107
  have hu2 := Tryd.underlying97
  go_enter Tryd.func87, Tryd.ntmps87
  go_wp2
  obtain ⟨g, hg⟩ : ∃ g, w.heap.size = g := ⟨_, rfl⟩
  have hB0 : Below w.heap.size w ((w.alloc (.cells #[.int .i64 a0_0, .int .i64 a0_1, .int .i64 a0_2, .int .i64 a0_3] 107)).alloc (.cells #[.int .i64 a1_0, .int .i64 a1_1, .int .i64 a1_2, .int .i64 a1_3] 107)) := ((Below.refl _ w).alloc (Nat.le_refl _) _).alloc (by simp) _
  have hz : ((w.alloc (.cells #[.int .i64 a0_0, .int .i64 a0_1, .int .i64 a0_2, .int .i64 a0_3] 107)).alloc (.cells #[.int .i64 a1_0, .int .i64 a1_1, .int .i64 a1_2, .int .i64 a1_3] 107)).heap.size = w.heap.size + 2 := by simp
  have c0 := blk_alloc (blk_new w (.cells #[.int .i64 a0_0, .int .i64 a0_1, .int .i64 a0_2, .int .i64 a0_3] 107)) (.cells #[.int .i64 a1_0, .int .i64 a1_1, .int .i64 a1_2, .int .i64 a1_3] 107)
  have c1 := blk_new (w.alloc (.cells #[.int .i64 a0_0, .int .i64 a0_1, .int .i64 a0_2, .int .i64 a0_3] 107)) (.cells #[.int .i64 a1_0, .int .i64 a1_1, .int .i64 a1_2, .int .i64 a1_3] 107)
  rw [World.size_alloc] at c1
  generalize (w.alloc (.cells #[.int .i64 a0_0, .int .i64 a0_1, .int .i64 a0_2, .int .i64 a0_3] 107)).alloc (.cells #[.int .i64 a1_0, .int .i64 a1_1, .int .i64 a1_2, .int .i64 a1_3] 107) = W at hB0 hz c0 c1 ⊢
  have HB := Aside0.mk hB0
  have HG := Aside0.mk hg
  rw [hg] at hz c0 c1 ⊢
  clear hg
  have HZ : g + 2 ≤ W.heap.size := by omega
  have KS : Aside0 (∀ w', Below (g + 2) W w' → w'.cell? ⟨g, 0, none⟩ = some (.int .i64 a0_0) ∧ w'.cell? ⟨g, 1, none⟩ = some (.int .i64 a0_1) ∧ w'.cell? ⟨g, 2, none⟩ = some (.int .i64 a0_2) ∧ w'.cell? ⟨g, 3, none⟩ = some (.int .i64 a0_3) ∧ w'.cell? ⟨g + 1, 0, none⟩ = some (.int .i64 a1_0) ∧ w'.cell? ⟨g + 1, 1, none⟩ = some (.int .i64 a1_1) ∧ w'.cell? ⟨g + 1, 2, none⟩ = some (.int .i64 a1_2) ∧ w'.cell? ⟨g + 1, 3, none⟩ = some (.int .i64 a1_3) ∧ Below (g + 2) W w') := ⟨fun w' hb => ⟨(hb.cell (p := ⟨g, 0, none⟩) (show g < g + 2 by omega)).trans (blk_cell c0 0), (hb.cell (p := ⟨g, 1, none⟩) (show g < g + 2 by omega)).trans (blk_cell c0 1), (hb.cell (p := ⟨g, 2, none⟩) (show g < g + 2 by omega)).trans (blk_cell c0 2), (hb.cell (p := ⟨g, 3, none⟩) (show g < g + 2 by omega)).trans (blk_cell c0 3), (hb.cell (p := ⟨g + 1, 0, none⟩) (show g + 1 < g + 2 by omega)).trans (blk_cell c1 0), (hb.cell (p := ⟨g + 1, 1, none⟩) (show g + 1 < g + 2 by omega)).trans (blk_cell c1 1), (hb.cell (p := ⟨g + 1, 2, none⟩) (show g + 1 < g + 2 by omega)).trans (blk_cell c1 2), (hb.cell (p := ⟨g + 1, 3, none⟩) (show g + 1 < g + 2 by omega)).trans (blk_cell c1 3), hb⟩⟩
  clear hB0 hz c0 c1
  go_region_held3 (fun w' => w'.cell? ⟨g, 0, none⟩ = some (.int .i64 a0_0) ∧ w'.cell? ⟨g, 1, none⟩ = some (.int .i64 a0_1) ∧ w'.cell? ⟨g, 2, none⟩ = some (.int .i64 a0_2) ∧ w'.cell? ⟨g, 3, none⟩ = some (.int .i64 a0_3) ∧ w'.cell? ⟨g + 1, 0, none⟩ = some (.int .i64 a1_0) ∧ w'.cell? ⟨g + 1, 1, none⟩ = some (.int .i64 a1_1) ∧ w'.cell? ⟨g + 1, 2, none⟩ = some (.int .i64 a1_2) ∧ w'.cell? ⟨g + 1, 3, none⟩ = some (.int .i64 a1_3) ∧ Below (g + 2) W w') (first | assumption | (refine KS.out _ ?_; repeat (first | exact Below.refl _ _ | exact spec_l2Meet.fin9 (by assumption) | exact spec_l2Meet.stepB HZ (spec_l2Meet.fin9 (by assumption)) hb | apply below_drew1 | apply pw_below_drewN))) (first | (go_at_call 95; (with_reducible refine (spec_l2Cross.calls _ _ _ _ _ _ _ _ (by first | exact HA1.out | exact HA2.out | exact HA3.out | exact HA4.out)).mono ?_); rintro e w' ⟨rfl, hb⟩) | (go_at_call 103; (with_reducible refine (spec_l2Sign.calls _ _ _ (by first | exact HB1.out | exact HB2.out | exact HB3.out | exact HB4.out)).mono ?_); rintro e w' ⟨rfl, ⟨nd, rfl⟩⟩))
  go_wp2
  go_region_held3 (fun w' => w'.cell? ⟨g, 0, none⟩ = some (.int .i64 a0_0) ∧ w'.cell? ⟨g, 1, none⟩ = some (.int .i64 a0_1) ∧ w'.cell? ⟨g, 2, none⟩ = some (.int .i64 a0_2) ∧ w'.cell? ⟨g, 3, none⟩ = some (.int .i64 a0_3) ∧ w'.cell? ⟨g + 1, 0, none⟩ = some (.int .i64 a1_0) ∧ w'.cell? ⟨g + 1, 1, none⟩ = some (.int .i64 a1_1) ∧ w'.cell? ⟨g + 1, 2, none⟩ = some (.int .i64 a1_2) ∧ w'.cell? ⟨g + 1, 3, none⟩ = some (.int .i64 a1_3) ∧ Below (g + 2) W w') (first | assumption | (refine KS.out _ ?_; repeat (first | exact Below.refl _ _ | exact spec_l2Meet.fin9 (by assumption) | exact spec_l2Meet.stepB HZ (spec_l2Meet.fin9 (by assumption)) hb | apply below_drew1 | apply pw_below_drewN))) (first | (go_at_call 95; (with_reducible refine (spec_l2Cross.calls _ _ _ _ _ _ _ _ (by first | exact HA1.out | exact HA2.out | exact HA3.out | exact HA4.out)).mono ?_); rintro e w' ⟨rfl, hb⟩) | (go_at_call 103; (with_reducible refine (spec_l2Sign.calls _ _ _ (by first | exact HB1.out | exact HB2.out | exact HB3.out | exact HB4.out)).mono ?_); rintro e w' ⟨rfl, ⟨nd, rfl⟩⟩))
  have h := HH.out
  clear HH HA1 HA2 HA3 HA4 HB1 HB2 HB3 HB4
  by_cases c1 : wrap64 (s1 * s2) < 0 <;> by_cases c2 : wrap64 (s3 * s4) < 0 <;> simp only [c1, c2, if_true, if_false] at h
  all_goals iterate 4 (try (any_goals (obtain ⟨u, U, h'⟩ := Option.bind_eq_some_iff.mp h; clear h; replace U := Aside0.mk U; cases u <;> (try simp only [Bool.false_eq_true, if_true, if_false] at h') <;> have h := h' <;> clear h')))
  all_goals obtain rfl := Option.some.inj h
  all_goals clear h
  all_goals (first | (have d1 : decide (wrap64 (s1 * s2) < 0) = true := decide_eq_true c1) | (have d1 : decide (wrap64 (s1 * s2) < 0) = false := decide_eq_false c1))
  all_goals (first | (have d2 : decide (wrap64 (s3 * s4) < 0) = true := decide_eq_true c2) | (have d2 : decide (wrap64 (s3 * s4) < 0) = false := decide_eq_false c2))
  all_goals clear c1 c2
  all_goals have hB2 : Aside0 (Below (g + 2) W (w'.drewN nd)) := ⟨spec_l2Meet.fin9 (by assumption)⟩
  all_goals generalize w'.drewN nd = V at hB2 ⊢
  all_goals simp only [i64_w]
  all_goals obtain ⟨k0, k1, k2, k3, k4, k5, k6, k7, _⟩ := KS.out _ hB2.out
  all_goals go_wp2_with (first | (go_at_call 86; (with_reducible refine (spec_l2Has.calls _ _ _ _ _ _ _ _ (Aside0.out (by assumption))).mono ?_); rintro e w'' ⟨rfl, hb⟩; have hB2 := Aside0.mk (spec_l2Meet.stepB HZ (by repeat (first | exact hB2.out | apply below_drew1 | apply pw_below_drewN)) hb); clear hb; obtain ⟨k0, k1, k2, k3, k4, k5, k6, k7, _⟩ := KS.out _ hB2.out))
  all_goals go_ret
  all_goals exact ⟨rfl, HB.out.trans (Below.mono (by repeat (first | exact hB2.out | apply below_drew1 | apply pw_below_drewN)) (by rw [HG.out]; omega))⟩

end Go.Proofs.YtddbahlofgkoaaaDoor.PA
namespace Go.Proofs.YtddbahlofgkoaaaDoor.PA
open Go.RowKit Go.Proofs.YtddbahlofgkoaaaDoorW.PrintWords Go.Proofs.YtddbahlofgkoaaaDoorW.PrintLast Go.Proofs.YtddbahlofgkoaaaDoorW.PrintMore
attribute [local go_sem] max2_int min2_int max_two min_two max_three min_three max_four min_four   -- for this text's walks alone
set_option linter.unusedVariables false
set_option linter.unusedSimpArgs false

/-! ### spec_LoopOk: function 56 -/
mutual
def spec_LoopOk.l0 : Nat → Int → List (S107) → Int → Option (Bool)
 | 0, _, _, _ => none
 | k + 1, x3, x4, x5 => if x5 < x3 then (if 0 ≤ x5 then (if x5 < (x4.length : Int) then ((spec_SegOk.f ((rd_T107 x4 x5).f0.f0) ((rd_T107 x4 x5).f0.f1) ((rd_T107 x4 x5).f1.f0) ((rd_T107 x4 x5).f1.f1)).bind fun t265 => (if t265 = true then (spec_LoopOk.l0 k x3 x4 (wrap64 (x5 + 1))) else (some false))) else (none)) else (none)) else (spec_LoopOk.l1 k x3 x4 0)
def spec_LoopOk.l1 : Nat → Int → List (S107) → Int → Option (Bool)
 | 0, _, _, _ => none
 | k + 1, x3, x4, x6 => if x6 < x3 then (if 0 ≤ x6 then (if x6 < (x4.length : Int) then (if x3 = 0 then (none) else (if 0 ≤ (Int.tmod (wrap64 (x6 + 1)) x3) then (if (Int.tmod (wrap64 (x6 + 1)) x3) < (x4.length : Int) then ((spec_l2Has.f ((rd_T107 x4 x6).f0.f0) ((rd_T107 x4 x6).f0.f1) ((rd_T107 x4 x6).f1.f0) ((rd_T107 x4 x6).f1.f1) ((rd_T107 x4 (Int.tmod (wrap64 (x6 + 1)) x3)).f1.f0) ((rd_T107 x4 (Int.tmod (wrap64 (x6 + 1)) x3)).f1.f1)).bind fun t268 => (if t268 = true then (spec_LoopOk.j2 k x3 x4 x6 true) else ((spec_l2Has.f ((rd_T107 x4 (Int.tmod (wrap64 (x6 + 1)) x3)).f0.f0) ((rd_T107 x4 (Int.tmod (wrap64 (x6 + 1)) x3)).f0.f1) ((rd_T107 x4 (Int.tmod (wrap64 (x6 + 1)) x3)).f1.f0) ((rd_T107 x4 (Int.tmod (wrap64 (x6 + 1)) x3)).f1.f1) ((rd_T107 x4 x6).f0.f0) ((rd_T107 x4 x6).f0.f1)).bind fun t271 => (spec_LoopOk.j2 k x3 x4 x6 t271)))) else (none)) else (none))) else (none)) else (none)) else (some true)
def spec_LoopOk.j2 : Nat → Int → List (S107) → Int → Bool → Option (Bool)
 | 0, _, _, _, _ => none
 | k + 1, x3, x4, x6, x58 => if x58 = true then (some false) else (spec_LoopOk.l2 k x3 x4 x6 (wrap64 (x6 + 2)))
def spec_LoopOk.l2 : Nat → Int → List (S107) → Int → Int → Option (Bool)
 | 0, _, _, _, _ => none
 | k + 1, x3, x4, x6, x7 => if x7 < x3 then (if x3 = 0 then (none) else (if (Int.tmod (wrap64 (x7 + 1)) x3) = x6 then (spec_LoopOk.l2 k x3 x4 x6 (wrap64 (x7 + 1))) else (if 0 ≤ x6 then (if x6 < (x4.length : Int) then (if 0 ≤ x7 then (if x7 < (x4.length : Int) then ((spec_l2Meet.f ((rd_T107 x4 x6).f0.f0) ((rd_T107 x4 x6).f0.f1) ((rd_T107 x4 x6).f1.f0) ((rd_T107 x4 x6).f1.f1) ((rd_T107 x4 x7).f0.f0) ((rd_T107 x4 x7).f0.f1) ((rd_T107 x4 x7).f1.f0) ((rd_T107 x4 x7).f1.f1)).bind fun t274 => (if t274 = true then (some false) else (spec_LoopOk.l2 k x3 x4 x6 (wrap64 (x7 + 1))))) else (none)) else (none)) else (none)) else (none)))) else (spec_LoopOk.l1 k x3 x4 (wrap64 (x6 + 1)))
end
def spec_LoopOk.f (k : Nat) (l0 : List (S97)) : Option (Bool) := (spec_l6In.f (l0.length : Int) 3 8).bind fun t260 => (if t260 = true then ((spec_l3Edges.f k l0).bind fun t261 => (spec_LoopOk.l0 k (l0.length : Int) t261 0)) else (some false))
theorem spec_LoopOk.mono_l : ∀ k, (∀ y0 y1 y2, LeO (spec_LoopOk.l0 k y0 y1 y2) (spec_LoopOk.l0 (k + 1) y0 y1 y2)) ∧ (∀ y0 y1 y2, LeO (spec_LoopOk.l1 k y0 y1 y2) (spec_LoopOk.l1 (k + 1) y0 y1 y2)) ∧ (∀ y0 y1 y2 y3, LeO (spec_LoopOk.j2 k y0 y1 y2 y3) (spec_LoopOk.j2 (k + 1) y0 y1 y2 y3)) ∧ (∀ y0 y1 y2 y3, LeO (spec_LoopOk.l2 k y0 y1 y2 y3) (spec_LoopOk.l2 (k + 1) y0 y1 y2 y3))
 | 0 => ⟨fun _ _ _ r h => by simp [spec_LoopOk.l0] at h, fun _ _ _ r h => by simp [spec_LoopOk.l1] at h, fun _ _ _ _ r h => by simp [spec_LoopOk.j2] at h, fun _ _ _ _ r h => by simp [spec_LoopOk.l2] at h⟩
 | k + 1 => by
  obtain ⟨ih0, ih1, ih2, ih3⟩ := spec_LoopOk.mono_l k; refine ⟨?_, ?_, ?_, ?_⟩
  ·intro y0 y1 y2; unfold spec_LoopOk.l0; repeat' first
   | (with_reducible exact ih0 _ _ _)
   | (with_reducible exact ih1 _ _ _)
   | (with_reducible exact ih2 _ _ _ _)
   | (with_reducible exact ih3 _ _ _ _)
   | (with_reducible exact spec_l3Edges.mono _ _)
   | (with_reducible exact LeO.refl _)
   | (with_reducible exact LeO.none _)
   | (with_reducible refine LeO.ite ?_ ?_)
   | (with_reducible refine LeO.bind ?_ (fun _ => ?_))
   | exact ih0 _ _ _
   | exact ih1 _ _ _
   | exact ih2 _ _ _ _
   | exact ih3 _ _ _ _
   | exact spec_l3Edges.mono _ _
   | exact LeO.none _
   | refine LeO.ite ?_ ?_
   | refine LeO.bind ?_ (fun _ => ?_)
  ·intro y0 y1 y2; unfold spec_LoopOk.l1; repeat' first
   | (with_reducible exact ih0 _ _ _)
   | (with_reducible exact ih1 _ _ _)
   | (with_reducible exact ih2 _ _ _ _)
   | (with_reducible exact ih3 _ _ _ _)
   | (with_reducible exact spec_l3Edges.mono _ _)
   | (with_reducible exact LeO.refl _)
   | (with_reducible exact LeO.none _)
   | (with_reducible refine LeO.ite ?_ ?_)
   | (with_reducible refine LeO.bind ?_ (fun _ => ?_))
   | exact ih0 _ _ _
   | exact ih1 _ _ _
   | exact ih2 _ _ _ _
   | exact ih3 _ _ _ _
   | exact spec_l3Edges.mono _ _
   | exact LeO.none _
   | refine LeO.ite ?_ ?_
   | refine LeO.bind ?_ (fun _ => ?_)
  ·intro y0 y1 y2 y3; unfold spec_LoopOk.j2; repeat' first
   | (with_reducible exact ih0 _ _ _)
   | (with_reducible exact ih1 _ _ _)
   | (with_reducible exact ih2 _ _ _ _)
   | (with_reducible exact ih3 _ _ _ _)
   | (with_reducible exact spec_l3Edges.mono _ _)
   | (with_reducible exact LeO.refl _)
   | (with_reducible exact LeO.none _)
   | (with_reducible refine LeO.ite ?_ ?_)
   | (with_reducible refine LeO.bind ?_ (fun _ => ?_))
   | exact ih0 _ _ _
   | exact ih1 _ _ _
   | exact ih2 _ _ _ _
   | exact ih3 _ _ _ _
   | exact spec_l3Edges.mono _ _
   | exact LeO.none _
   | refine LeO.ite ?_ ?_
   | refine LeO.bind ?_ (fun _ => ?_)
  ·intro y0 y1 y2 y3; unfold spec_LoopOk.l2; repeat' first
   | (with_reducible exact ih0 _ _ _)
   | (with_reducible exact ih1 _ _ _)
   | (with_reducible exact ih2 _ _ _ _)
   | (with_reducible exact ih3 _ _ _ _)
   | (with_reducible exact spec_l3Edges.mono _ _)
   | (with_reducible exact LeO.refl _)
   | (with_reducible exact LeO.none _)
   | (with_reducible refine LeO.ite ?_ ?_)
   | (with_reducible refine LeO.bind ?_ (fun _ => ?_))
   | exact ih0 _ _ _
   | exact ih1 _ _ _
   | exact ih2 _ _ _ _
   | exact ih3 _ _ _ _
   | exact spec_l3Edges.mono _ _
   | exact LeO.none _
   | refine LeO.ite ?_ ?_
   | refine LeO.bind ?_ (fun _ => ?_)
theorem spec_LoopOk.mono : ∀ a0 k, LeO (spec_LoopOk.f k a0) (spec_LoopOk.f (k + 1) a0) := by
 intro a0 k; obtain ⟨ih0, ih1, ih2, ih3⟩ := spec_LoopOk.mono_l k; unfold spec_LoopOk.f; repeat' first
   | (with_reducible exact ih0 _ _ _)
   | (with_reducible exact ih1 _ _ _)
   | (with_reducible exact ih2 _ _ _ _)
   | (with_reducible exact ih3 _ _ _ _)
   | (with_reducible exact spec_l3Edges.mono _ _)
   | (with_reducible exact LeO.refl _)
   | (with_reducible exact LeO.none _)
   | (with_reducible refine LeO.ite ?_ ?_)
   | (with_reducible refine LeO.bind ?_ (fun _ => ?_))
   | exact ih0 _ _ _
   | exact ih1 _ _ _
   | exact ih2 _ _ _ _
   | exact ih3 _ _ _ _
   | exact spec_l3Edges.mono _ _
   | exact LeO.none _
   | refine LeO.ite ?_ ?_
   | refine LeO.bind ?_ (fun _ => ?_)
def spec_LoopOk.T13 : Bool × List (List Nat × List Nat) := (true, [([], []), ([], []), ([0, 1], [0, 1]), ([2], [2]), ([], []), ([], []), ([5], [5]), ([], []), ([6, 7], [6, 7]), ([4, 8], [4, 8]), ([9], [9]), ([10], [10]), ([3, 11], [3, 11]), ([12, 12], [12]), ([13], [13]), ([13], [13]), ([15, 13], [13, 15]), ([13], [13]), ([16, 17, 13], [13, 16, 17]), ([14, 18, 13], [13, 14, 18]), ([19, 13], [13, 19]), ([13], [13]), ([13], [13]), ([21, 22, 13], [13, 21, 22]), ([23, 13], [13, 23]), ([24, 13], [13, 24]), ([20, 25, 13, 13], [13, 20, 25]), ([13, 26], [13, 26])])
def spec_LoopOk.B13 : List Nat := [0, 0, 3, 7, 0, 0, 32, 0, 224, 496, 1008, 2032, 4095, 8191, 16383, 16383, 49151, 16383, 245759, 524287, 1048575, 16383, 16383, 6307839, 14696447, 31473663, 67108863, 134217727]
theorem spec_LoopOk.tab13 : rtab .any (opsOf Tryd.f56 13) = spec_LoopOk.T13 := by kernel_rfl
theorem spec_LoopOk.bits13 : waitsOk spec_LoopOk.T13.2 spec_LoopOk.B13 = true := by kernel_rfl
def spec_LoopOk.T18 : Bool × List (List Nat × List Nat) := (true, [([], []), ([0], [0]), ([], []), ([1, 2], [1, 2]), ([], []), ([3, 4], [3, 4]), ([5], [5]), ([6], [6]), ([6], [6]), ([7, 8, 6], [6, 7, 8]), ([9, 6], [6, 9]), ([6], [6]), ([6], [6]), ([11, 12, 6], [6, 11, 12]), ([13, 6], [6, 13]), ([10, 14, 6, 6], [6, 10, 14]), ([6, 15], [6, 15])])
def spec_LoopOk.B18 : List Nat := [0, 1, 0, 7, 0, 31, 63, 127, 127, 511, 1023, 127, 127, 6271, 14463, 32767, 65535]
theorem spec_LoopOk.tab18 : rtab .any (opsOf Tryd.f56 18) = spec_LoopOk.T18 := by kernel_rfl
theorem spec_LoopOk.bits18 : waitsOk spec_LoopOk.T18.2 spec_LoopOk.B18 = true := by kernel_rfl
set_option maxHeartbeats 8000000 in
set_option maxRecDepth 100000 in
theorem spec_LoopOk.calls (k : Nat) (A0 : Option Addr) (c0 : Nat) (l0 : List (S97)) (r : Bool) (w : World) (hr0 : Kd.C k97 w A0 l0.length l0) (hc0 : l0.length ≤ c0) (h : spec_LoopOk.f k l0 = some r) :
  Calls Tryd.prog 56 #[.slice A0 l0.length c0] w fun e w' => e = .returned (.bool r) ∧ Below w.heap.size w w' := by
 have hu107 := Tryd.underlying107; have hu97 := Tryd.underlying97; have HR0 := Aside0.mk hr0; have HC0 := Aside0.mk hc0; clear hr0 hc0; have HB := Aside0.mk (Below.refl w.heap.size w); have H : ((spec_l6In.f (l0.length : Int) 3 8).bind fun t260 => (if t260 = true then ((spec_l3Edges.f k l0).bind fun t261 => (spec_LoopOk.l0 k (l0.length : Int) t261 0)) else (some false))) = some r := h; clear h; replace H := Option.bind_eq_some_iff.mp H; obtain ⟨t260, A20, H⟩ := H; replace H : (if t260 = true then ((spec_l3Edges.f k l0).bind fun t261 => (spec_LoopOk.l0 k (l0.length : Int) t261 0)) else (some false)) = some r := H; have A2 := Aside0.mk A20; clear A20; by_cases c3 : t260 = true
 ·subst c3; have H1 : ((spec_l3Edges.f k l0).bind fun t261 => (spec_LoopOk.l0 k (l0.length : Int) t261 0)) = some r := by rw [if_pos rfl] at H; exact H
  clear H; have H := H1; clear H1; replace H := Option.bind_eq_some_iff.mp H; obtain ⟨t261, A40, H⟩ := H; replace H : (spec_LoopOk.l0 k (l0.length : Int) t261 0) = some r := H; have A4 := Aside0.mk A40; clear A40; have H' := Aside0.mk H; clear H; go_enter Tryd.func56, Tryd.ntmps56
  go_wp2_with (first | ((with_reducible refine gate_callee (f := 50) rfl ?_); refine goesL_ (some 11) rfl rfl Tryd.func50 (by kernel_rfl) rfl #[.int .i64 (l0.length : Int), .int .i64 3, .int .i64 8] rfl (by (try simp only [List.map_toArray, List.map_cons, List.map_nil]); first | done | rfl | (simp only [List.length_drop, List.length_take]; rfl)) ?_; (with_reducible refine (spec_l6In.calls (l0.length : Int) 3 8 true _ A2.out).mono ?_); rintro e w' ⟨rfl, ⟨nd, rfl⟩⟩; refine ⟨_, rfl, ?_⟩) | ((with_reducible refine gate_callee (f := 84) rfl ?_); refine goesL_ (some 14) rfl rfl Tryd.func84 (by kernel_rfl) rfl #[.slice A0 l0.length c0] rfl (by (try simp only [List.map_toArray, List.map_cons, List.map_nil]); first | done | rfl | (simp only [List.length_drop, List.length_take]; rfl)) ?_; (with_reducible refine (spec_l3Edges.calls k _ _ l0 t261 _ ?side1 ?side2 A4.out).mono ?_); (case side1 => repeat (first | exact HR0.out | (with_reducible refine Kd.C_alloc ?_ _) | (with_reducible refine Kd.C_drewN ?_ _) | (with_reducible refine Kd.C_drew ?_))); (case side2 => exact HC0.out); rintro e w5 ⟨v262, rfl, ho0, hb⟩; refine ⟨_, rfl, ?_⟩; have n0_ := Aside0.mk (Kd.R_lower ho0 (below_size (by repeat (first | (with_reducible first | exact HB.out | apply below_alloc | apply pw_below_drewN | apply below_drew1) | exact HB.out)))); have n1_ := Aside0.mk (below_step (by repeat (first | (with_reducible first | exact HB.out | apply below_alloc | apply pw_below_drewN | apply below_drew1) | exact HB.out)) hb); clear HB; have HO263 := n0_; have HB := n1_; clear n0_ n1_; (try clear hb); (try clear hb2); (try clear hk); (try clear hi); (try clear ho0)))
  go_loopg [5] k (fun kq v5 w' => ∃ (x5_1 : Int), v5 = .int .i64 x5_1 ∧ Aside0 (spec_LoopOk.l0 kq (l0.length : Int) t261 x5_1 = some r) ∧ Aside0 (kq ≤ k) ∧ Aside0 (Kd.R k107 107 w' w.heap.size (fun _ => True) v262 t261) ∧ Aside0 (Below w.heap.size w w'))
  case atStart => exact ⟨(0), (by first | rfl | (simp; done) | (simp [*]; done)), H', ⟨Nat.le_refl _⟩, ⟨by (with_reducible repeat (first | apply Kd.R_alloc | apply Kd.R_drewN | apply Kd.R_drew)); exact HO263.out⟩, ⟨by repeat (first | (with_reducible first | exact HB.out | apply below_alloc | apply pw_below_drewN | apply below_drew1) | exact HB.out)⟩⟩
  case round =>
   clear H'; try clear p2
   try clear c3
   try clear c5
   obtain ⟨x5_1, rfl, HA, HK1, HO_4, HB⟩ := hrel; cases gk with
   | zero => exact absurd HA.out (by simp [spec_LoopOk.l0])
   | succ k1 =>
    have H := HA.out; clear HA; simp only [spec_LoopOk.l0] at H; by_cases c6 : x5_1 < (l0.length : Int)
    ·rw [if_pos c6] at H; have c6b0 : decide (x5_1 < (l0.length : Int)) = true := decide_eq_true c6; clear c6; by_cases c7 : 0 ≤ x5_1
     ·rw [if_pos c7] at H; have c7b0 : decide (0 ≤ x5_1) = true := decide_eq_true c7; clear c7; by_cases c8 : x5_1 < (t261.length : Int)
      ·rw [if_pos c8] at H; have c8b0 : decide (x5_1 < (t261.length : Int)) = true := decide_eq_true c8; clear c8; replace H := Option.bind_eq_some_iff.mp H; obtain ⟨t265, A90, H⟩ := H; replace H : (if t265 = true then (spec_LoopOk.l0 k1 (l0.length : Int) t261 (wrap64 (x5_1 + 1))) else (some false)) = some r := H; have A9 := Aside0.mk A90; clear A90; by_cases c10 : t265 = true
       ·subst c10; have H1 : (spec_LoopOk.l0 k1 (l0.length : Int) t261 (wrap64 (x5_1 + 1))) = some r := by rw [if_pos rfl] at H; exact H
        clear H; have H := H1; clear H1; have H' := Aside0.mk H; clear H; obtain ⟨Ao11, co11, eo11⟩ := Kd.R_slice HO_4.out; subst eo11; have p264 : 0 ≤ (x5_1 : Int) := of_decide_eq_true (by first | (with_reducible assumption) | assumption); have q264 : x5_1 < (t261.length : Int) := of_decide_eq_true (by first | (with_reducible assumption) | assumption); obtain ⟨ad264, e264, hx264_0, hx264_1, hx264_2, hx264_3⟩ := at_T107 (Kd.R_reads' HO_4.out).2.2 x5_1 p264 q264; cases e264; replace p264 := eq_true p264; replace q264 := eq_true q264; go_wp2_with (first | ((with_reducible refine gate_callee (f := 85) rfl ?_); refine goesL_ (some 24) rfl rfl Tryd.func85 (by kernel_rfl) rfl #[.agg #[.int .i64 ((rd_T107 t261 x5_1).f0.f0), .int .i64 ((rd_T107 t261 x5_1).f0.f1), .int .i64 ((rd_T107 t261 x5_1).f1.f0), .int .i64 ((rd_T107 t261 x5_1).f1.f1)]] rfl (by (try simp only [List.map_toArray, List.map_cons, List.map_nil]); first | done | rfl | (simp only [List.length_drop, List.length_take]; rfl)) ?_; (with_reducible refine (spec_SegOk.calls ((rd_T107 t261 x5_1).f0.f0) ((rd_T107 t261 x5_1).f0.f1) ((rd_T107 t261 x5_1).f1.f0) ((rd_T107 t261 x5_1).f1.f1) true _ A9.out).mono ?_); rintro e w12 ⟨rfl, hb⟩; refine ⟨_, rfl, ?_⟩; have n0_ := Aside0.mk (Kd.R_below (by (with_reducible repeat (first | apply Kd.R_alloc | apply Kd.R_drewN | apply Kd.R_drew)); exact HO_4.out) hb); have n1_ := Aside0.mk (below_step (by repeat (first | (with_reducible first | exact HB.out | apply below_alloc | apply pw_below_drewN | apply below_drew1) | exact HB.out)) hb); clear HO_4; clear HB; have HO_4 := n0_; have HB := n1_; clear n0_ n1_; (try clear hb); (try clear hb2); (try clear hk); (try clear hi)))
        go_roundg k1
        case measure => have := HK1.out; omega
        case rel => exact ⟨(wrap64 (x5_1 + 1)), (by first | rfl | (simp; done) | (simp [*]; done)), H', ⟨by have := HK1.out; omega⟩, ⟨by (with_reducible repeat (first | apply Kd.R_alloc | apply Kd.R_drewN | apply Kd.R_drew)); exact HO_4.out⟩, ⟨by repeat (first | (with_reducible first | exact HB.out | apply below_alloc | apply pw_below_drewN | apply below_drew1) | exact HB.out)⟩⟩
       ·replace c10 := Bool.eq_false_iff.mpr c10; subst c10; have H1 : (some false) = some r := by rw [if_neg (show ¬ (false = true) by decide)] at H; exact H
        clear H; have H := H1; clear H1; obtain rfl := Option.some.inj H; obtain ⟨Ao13, co13, eo13⟩ := Kd.R_slice HO_4.out; subst eo13; have p264 : 0 ≤ (x5_1 : Int) := of_decide_eq_true (by first | (with_reducible assumption) | assumption); have q264 : x5_1 < (t261.length : Int) := of_decide_eq_true (by first | (with_reducible assumption) | assumption); obtain ⟨ad264, e264, hx264_0, hx264_1, hx264_2, hx264_3⟩ := at_T107 (Kd.R_reads' HO_4.out).2.2 x5_1 p264 q264; cases e264; replace p264 := eq_true p264; replace q264 := eq_true q264; go_wp2_with (first | ((with_reducible refine gate_callee (f := 85) rfl ?_); refine goesL_ (some 24) rfl rfl Tryd.func85 (by kernel_rfl) rfl #[.agg #[.int .i64 ((rd_T107 t261 x5_1).f0.f0), .int .i64 ((rd_T107 t261 x5_1).f0.f1), .int .i64 ((rd_T107 t261 x5_1).f1.f0), .int .i64 ((rd_T107 t261 x5_1).f1.f1)]] rfl (by (try simp only [List.map_toArray, List.map_cons, List.map_nil]); first | done | rfl | (simp only [List.length_drop, List.length_take]; rfl)) ?_; (with_reducible refine (spec_SegOk.calls ((rd_T107 t261 x5_1).f0.f0) ((rd_T107 t261 x5_1).f0.f1) ((rd_T107 t261 x5_1).f1.f0) ((rd_T107 t261 x5_1).f1.f1) false _ A9.out).mono ?_); rintro e w14 ⟨rfl, hb⟩; refine ⟨_, rfl, ?_⟩; have n0_ := Aside0.mk (Kd.R_below (by (with_reducible repeat (first | apply Kd.R_alloc | apply Kd.R_drewN | apply Kd.R_drew)); exact HO_4.out) hb); have n1_ := Aside0.mk (below_step (by repeat (first | (with_reducible first | exact HB.out | apply below_alloc | apply pw_below_drewN | apply below_drew1) | exact HB.out)) hb); clear HO_4; clear HB; have HO_4 := n0_; have HB := n1_; clear n0_ n1_; (try clear hb); (try clear hb2); (try clear hk); (try clear hi)))
        go_ret
        exact ⟨by first | rfl | (simp [errW_none, errW_some] <;> rfl) | (simp [*, errW_none, errW_some] <;> rfl), by repeat (first | (with_reducible first | exact HB.out | apply below_alloc | apply pw_below_drewN | apply below_drew1) | exact HB.out)⟩
      ·rw [if_neg c8] at H; exact absurd H (by simp)
     ·rw [if_neg c7] at H; exact absurd H (by simp)
    ·rw [if_neg c6] at H; have c6b0 : decide (x5_1 < (l0.length : Int)) = false := decide_eq_false c6; clear c6; have H' := Aside0.mk H; clear H; go_wp2
     go_loopg [6] k1 (fun kq v6 w' => ∃ (x6_2 : Int), v6 = .int .i64 x6_2 ∧ Aside0 (spec_LoopOk.l1 kq (l0.length : Int) t261 x6_2 = some r) ∧ Aside0 (kq ≤ k1) ∧ Aside0 (Kd.R k107 107 w' w.heap.size (fun _ => True) v262 t261) ∧ Aside0 (Below w.heap.size w w'))
     case atStart => exact ⟨(0), (by first | rfl | (simp; done) | (simp [*]; done)), H', ⟨Nat.le_refl _⟩, ⟨by (with_reducible repeat (first | apply Kd.R_alloc | apply Kd.R_drewN | apply Kd.R_drew)); exact HO_4.out⟩, ⟨by repeat (first | (with_reducible first | exact HB.out | apply below_alloc | apply pw_below_drewN | apply below_drew1) | exact HB.out)⟩⟩
     case round =>
      clear H'; try clear c1
      try clear p2
      try clear q2
      try clear hx2
      try clear c3
      try clear c5
      try clear c6
      try clear c6b0
      try clear p6
      try clear c7
      try clear c7b0
      try clear c8
      try clear c8b0
      try clear c10
      try clear hx264_0
      try clear hx264_1
      try clear hx264_2
      try clear hx264_3
      try clear p2
      try clear p264
      try clear q264
      obtain ⟨x6_2, rfl, HA, HK2, HO_4, HB⟩ := hrel; cases gk with
      | zero => exact absurd HA.out (by simp [spec_LoopOk.l1])
      | succ k2 =>
       have H := HA.out; clear HA; simp only [spec_LoopOk.l1] at H; by_cases c15 : x6_2 < (l0.length : Int)
       ·rw [if_pos c15] at H; have c15b0 : decide (x6_2 < (l0.length : Int)) = true := decide_eq_true c15; clear c15; have HC16 := Aside0.mk H; clear H; go_upto_region 13 with (fail)
        go_cut [58] (fun v58 wc => ∃ (kq : Nat) (x58_15 : Bool), v58 = .bool x58_15 ∧ Aside0 (spec_LoopOk.j2 kq (l0.length : Int) t261 x6_2 x58_15 = some r) ∧ Aside0 (kq ≤ k2) ∧ Aside0 (Kd.R k107 107 wc w.heap.size (fun _ => True) v262 t261) ∧ Aside0 (Below w.heap.size w wc))
        case first =>
         have H := HC16.out; clear HC16; by_cases c17 : 0 ≤ x6_2
         ·rw [if_pos c17] at H; have c17b0 : decide (0 ≤ x6_2) = true := decide_eq_true c17; clear c17; (first | rw [c17b0] | (simp only [i64_w, i32_w]; rw [c17b0]) | skip); by_cases c18 : x6_2 < (t261.length : Int)
          ·rw [if_pos c18] at H; have c18b0 : decide (x6_2 < (t261.length : Int)) = true := decide_eq_true c18; clear c18; by_cases c19 : (l0.length : Int) = 0
           ·rw [if_pos c19] at H; exact absurd H (by simp)
           ·rw [if_neg c19] at H; have c19b0 : ((l0.length : Int) == 0) = false := beq_eq_false_iff_ne.mpr c19; have c19b1 : ((l0.length : Int) != 0) = true := bne_iff_ne.mpr c19; have c19b2 : ¬ (l0 = []) := fun h_ => c19 (by rw [h_]; rfl)
            obtain ⟨ji20, hji20⟩ : ∃ j_ : Int, (Int.tmod (wrap64 (x6_2 + 1)) (l0.length : Int)) = j_ := ⟨_, rfl⟩; replace H : (if 0 ≤ (ji20) then (if (ji20) < (t261.length : Int) then ((spec_l2Has.f ((rd_T107 t261 x6_2).f0.f0) ((rd_T107 t261 x6_2).f0.f1) ((rd_T107 t261 x6_2).f1.f0) ((rd_T107 t261 x6_2).f1.f1) ((rd_T107 t261 (ji20)).f1.f0) ((rd_T107 t261 (ji20)).f1.f1)).bind fun t268 => (if t268 = true then (spec_LoopOk.j2 k2 (l0.length : Int) t261 x6_2 true) else ((spec_l2Has.f ((rd_T107 t261 (ji20)).f0.f0) ((rd_T107 t261 (ji20)).f0.f1) ((rd_T107 t261 (ji20)).f1.f0) ((rd_T107 t261 (ji20)).f1.f1) ((rd_T107 t261 x6_2).f0.f0) ((rd_T107 t261 x6_2).f0.f1)).bind fun t271 => (spec_LoopOk.j2 k2 (l0.length : Int) t261 x6_2 t271)))) else (none)) else (none)) = some r := by first | (rw [hji20] at H; exact H) | (simp only [hji20] at H ⊢; exact H)
            by_cases c21 : 0 ≤ (ji20)
            ·rw [if_pos c21] at H; have c21b0 : decide (0 ≤ (ji20)) = true := decide_eq_true c21; clear c21; by_cases c22 : (ji20) < (t261.length : Int)
             ·rw [if_pos c22] at H; have c22b0 : decide ((ji20) < (t261.length : Int)) = true := decide_eq_true c22; clear c22; replace H := Option.bind_eq_some_iff.mp H; obtain ⟨t268, A230, H⟩ := H; replace H : (if t268 = true then (spec_LoopOk.j2 k2 (l0.length : Int) t261 x6_2 true) else ((spec_l2Has.f ((rd_T107 t261 (ji20)).f0.f0) ((rd_T107 t261 (ji20)).f0.f1) ((rd_T107 t261 (ji20)).f1.f0) ((rd_T107 t261 (ji20)).f1.f1) ((rd_T107 t261 x6_2).f0.f0) ((rd_T107 t261 x6_2).f0.f1)).bind fun t271 => (spec_LoopOk.j2 k2 (l0.length : Int) t261 x6_2 t271))) = some r := H; have A23 := Aside0.mk A230; clear A230; by_cases c24 : t268 = true
              ·subst c24; have H1 : (spec_LoopOk.j2 k2 (l0.length : Int) t261 x6_2 true) = some r := by rw [if_pos rfl] at H; exact H
               clear H; have H := H1; clear H1; have H' := Aside0.mk H; clear H; try go_wp2
               have n0_ := Aside0.mk (Kd.R_drew HO_4.out); have n1_ := Aside0.mk (below_drew1 HB.out); clear HO_4; clear HB; have HO_4 := n0_; have HB := n1_; clear n0_ n1_; obtain ⟨Ao26, co26, eo26⟩ := Kd.R_slice HO_4.out; (first | subst eo26 | (injection eo26 with f1_ f2_ f3_; have f4_ := f1_.symm; have f5_ := f3_.symm; clear f1_ f2_ f3_; subst f4_; subst f5_)); have p266 : 0 ≤ (x6_2 : Int) := of_decide_eq_true (by first | (with_reducible assumption) | assumption); have q266 : x6_2 < (t261.length : Int) := of_decide_eq_true (by first | (with_reducible assumption) | assumption); obtain ⟨ad266, e266, hx266_0, hx266_1, hx266_2, hx266_3⟩ := at_T107 (Kd.R_reads' HO_4.out).2.2 x6_2 p266 q266; cases e266; replace p266 := eq_true p266; replace q266 := eq_true q266; have p267 : 0 ≤ ((ji20) : Int) := of_decide_eq_true (by first | (with_reducible assumption) | assumption); have q267 : (ji20) < (t261.length : Int) := of_decide_eq_true (by first | (with_reducible assumption) | assumption); obtain ⟨ad267, e267, hx267_0, hx267_1, hx267_2, hx267_3⟩ := at_T107 (Kd.R_reads' HO_4.out).2.2 (ji20) p267 q267; obtain rfl : ad266 = ad267 := (by injection e267); replace p267 := eq_true p267; replace q267 := eq_true q267; refine start_ (n := 28) (S := fun w' => w'.cell? (ad266.add ((x6_2).toNat * 4)) = some (.int .i64 ((rd_T107 t261 x6_2).f0.f0)) ∧ w'.cell? ⟨(ad266.add ((x6_2).toNat * 4)).block, (ad266.add ((x6_2).toNat * 4)).off + 1, none⟩ = some (.int .i64 ((rd_T107 t261 x6_2).f0.f1)) ∧ w'.cell? ⟨(ad266.add ((x6_2).toNat * 4)).block, (ad266.add ((x6_2).toNat * 4)).off + 2, none⟩ = some (.int .i64 ((rd_T107 t261 x6_2).f1.f0)) ∧ w'.cell? ⟨(ad266.add ((x6_2).toNat * 4)).block, (ad266.add ((x6_2).toNat * 4)).off + 3, none⟩ = some (.int .i64 ((rd_T107 t261 x6_2).f1.f1)) ∧ w'.cell? (ad266.add (((ji20)).toNat * 4)) = some (.int .i64 ((rd_T107 t261 (ji20)).f0.f0)) ∧ w'.cell? ⟨(ad266.add (((ji20)).toNat * 4)).block, (ad266.add (((ji20)).toNat * 4)).off + 1, none⟩ = some (.int .i64 ((rd_T107 t261 (ji20)).f0.f1)) ∧ w'.cell? ⟨(ad266.add (((ji20)).toNat * 4)).block, (ad266.add (((ji20)).toNat * 4)).off + 2, none⟩ = some (.int .i64 ((rd_T107 t261 (ji20)).f1.f0)) ∧ w'.cell? ⟨(ad266.add (((ji20)).toNat * 4)).block, (ad266.add (((ji20)).toNat * 4)).off + 3, none⟩ = some (.int .i64 ((rd_T107 t261 (ji20)).f1.f1))) (ds := []) #[false, false, false, false, false, false, false, false, false, false, false, false, false, false, false, false, false, false, false, false, false, false, false, false, false, false, false, false] (by kernel_rfl) rfl rfl ⟨hx266_0, hx266_1, hx266_2, hx266_3, hx267_0, hx267_1, hx267_2, hx267_3⟩ (fun hHeld => ?_); refine with_tabW spec_LoopOk.tab13 spec_LoopOk.bits13 (fun HT_ HW_ => ?_)
               generalize wr.drew = w25 at HO_4 HB hx266_0 hx266_1 hx266_2 hx266_3 hx267_0 hx267_1 hx267_2 hx267_3 hHeld ⊢
               refine pu_ HT_.out 0 31 {} ?_; refine pu_ HT_.out 1 32 {} ?_; refine pu_ HT_.out 2 33 {} ?_; refine pu_ HT_.out 4 35 {} ?_; refine pu_ HT_.out 5 36 {} ?_; refine pu_ HT_.out 6 37 {} ?_; refine pu_ HT_.out 7 38 {} ?_; refine pu_ HT_.out 8 39 {} ?_; refine pu_ HT_.out 9 40 {} ?_; refine pu_ HT_.out 10 41 {} ?_; refine tk_ HT_.out HW_.out 3 34 hHeld {} ?_; refine tk_ HT_.out HW_.out 11 42 hHeld {} ?_
               refine one_ (i := 12) (N := some 43) #[true, true, true, true, true, true, true, true, true, true, true, true, true, false, false, false, false, false, false, false, false, false, false, false, false, false, false, false] rfl rfl (one_of HT_.out (by kernel_rfl)) (by decide) (fun K hK => ?_); refine goes_ Tryd.func86 (by kernel_rfl) rfl #[.agg #[.int .i64 ((rd_T107 t261 x6_2).f0.f0), .int .i64 ((rd_T107 t261 x6_2).f0.f1), .int .i64 ((rd_T107 t261 x6_2).f1.f0), .int .i64 ((rd_T107 t261 x6_2).f1.f1)], .agg #[.int .i64 ((rd_T107 t261 (ji20)).f1.f0), .int .i64 ((rd_T107 t261 (ji20)).f1.f1)]] (by rfl) rfl rfl (by (try simp only [List.map_toArray, List.map_cons, List.map_nil]); first | done | (simp only [hji20]; rfl) | rfl | (simp only [List.length_drop, List.length_take]; rfl)) ?_; with_reducible refine (spec_l2Has.calls ((rd_T107 t261 x6_2).f0.f0) ((rd_T107 t261 x6_2).f0.f1) ((rd_T107 t261 x6_2).f1.f0) ((rd_T107 t261 x6_2).f1.f1) ((rd_T107 t261 (ji20)).f1.f0) ((rd_T107 t261 (ji20)).f1.f1) true _ A23.out).mono ?_
               rintro e w27 ⟨rfl, hb⟩; have HS0_ := (hb.cell (World.block_lt_of_cell? _ _ (hHeld.1))).trans (hHeld.1); have HS1_ := (hb.cell (World.block_lt_of_cell? _ _ (hHeld.2.1))).trans (hHeld.2.1); have HS2_ := (hb.cell (World.block_lt_of_cell? _ _ (hHeld.2.2.1))).trans (hHeld.2.2.1); have HS3_ := (hb.cell (World.block_lt_of_cell? _ _ (hHeld.2.2.2.1))).trans (hHeld.2.2.2.1); have HS4_ := (hb.cell (World.block_lt_of_cell? _ _ (hHeld.2.2.2.2.1))).trans (hHeld.2.2.2.2.1); have HS5_ := (hb.cell (World.block_lt_of_cell? _ _ (hHeld.2.2.2.2.2.1))).trans (hHeld.2.2.2.2.2.1); have HS6_ := (hb.cell (World.block_lt_of_cell? _ _ (hHeld.2.2.2.2.2.2.1))).trans (hHeld.2.2.2.2.2.2.1); have HS7_ := (hb.cell (World.block_lt_of_cell? _ _ (hHeld.2.2.2.2.2.2.2))).trans (hHeld.2.2.2.2.2.2.2); refine ⟨_, rfl, ?_⟩; have n0_ := Aside0.mk (Kd.R_below (by (with_reducible repeat (first | apply Kd.R_alloc | apply Kd.R_drewN | apply Kd.R_drew)); exact HO_4.out) hb); have n1_ := Aside0.mk (below_step (by repeat (first | (with_reducible first | exact HB.out | apply below_alloc | apply pw_below_drewN | apply below_drew1) | exact HB.out)) hb); clear HO_4; clear HB; have HO_4 := n0_; have HB := n1_; clear n0_ n1_; (try clear hb); (try clear hb2); (try clear hk); (try clear hi); refine hK.out _ _ ⟨HS0_, HS1_, HS2_, HS3_, HS4_, HS5_, HS6_, HS7_⟩ (fun hHeld => ?_); clear hK K; refine norm_ (a' := ?_) ?_ ?_; rotate_left; ·show Act.put _ (some 43) _ = _; simp only [Act.put, Geo.sa_, Geo.sb_, Geo.sc_, i64_w, i32_w]; rfl
               refine pu_ HT_.out 13 44 {} ?_; refine pv_ HT_.out 14 45 {} ?_; refine pv_ HT_.out 15 46 {} ?_; refine pv_ HT_.out 16 47 {} ?_; refine pv_ HT_.out 17 48 {} ?_; refine pv_ HT_.out 18 49 {} ?_; refine pv_ HT_.out 19 50 {} ?_; refine pv_ HT_.out 20 51 {} ?_; refine pv_ HT_.out 21 52 {} ?_; refine pv_ HT_.out 22 53 {} ?_; refine pv_ HT_.out 23 54 {} ?_; refine pv_ HT_.out 24 55 {} ?_; refine pv_ HT_.out 25 56 {} ?_; refine pv_ HT_.out 26 57 {} ?_; refine pu_ HT_.out 27 58 {} ?_
               refine done_ (done_of HT_.out (by kernel_rfl)) ?_; try go_wp2
               go_meet
               case rel => exact ⟨_, (true), (by first | rfl | (simp; done) | (simp [*]; done)), H', ⟨by have := HK1.out; have := HK2.out; first | omega | exact Nat.le_refl _⟩, ⟨by (with_reducible repeat (first | apply Kd.R_alloc | apply Kd.R_drewN | apply Kd.R_drew)); exact HO_4.out⟩, ⟨by repeat (first | (with_reducible first | exact HB.out | apply below_alloc | apply pw_below_drewN | apply below_drew1) | exact HB.out)⟩⟩
              ·replace c24 := Bool.eq_false_iff.mpr c24; subst c24; have H1 : ((spec_l2Has.f ((rd_T107 t261 (ji20)).f0.f0) ((rd_T107 t261 (ji20)).f0.f1) ((rd_T107 t261 (ji20)).f1.f0) ((rd_T107 t261 (ji20)).f1.f1) ((rd_T107 t261 x6_2).f0.f0) ((rd_T107 t261 x6_2).f0.f1)).bind fun t271 => (spec_LoopOk.j2 k2 (l0.length : Int) t261 x6_2 t271)) = some r := by rw [if_neg (show ¬ (false = true) by decide)] at H; exact H
               clear H; have H := H1; clear H1; replace H := Option.bind_eq_some_iff.mp H; obtain ⟨t271, A280, H⟩ := H; replace H : (spec_LoopOk.j2 k2 (l0.length : Int) t261 x6_2 t271) = some r := H; have A28 := Aside0.mk A280; clear A280; have H' := Aside0.mk H; clear H; try go_wp2
               have n0_ := Aside0.mk (Kd.R_drew HO_4.out); have n1_ := Aside0.mk (below_drew1 HB.out); clear HO_4; clear HB; have HO_4 := n0_; have HB := n1_; clear n0_ n1_; obtain ⟨Ao30, co30, eo30⟩ := Kd.R_slice HO_4.out; (first | subst eo30 | (injection eo30 with f1_ f2_ f3_; have f4_ := f1_.symm; have f5_ := f3_.symm; clear f1_ f2_ f3_; subst f4_; subst f5_)); have p266 : 0 ≤ (x6_2 : Int) := of_decide_eq_true (by first | (with_reducible assumption) | assumption); have q266 : x6_2 < (t261.length : Int) := of_decide_eq_true (by first | (with_reducible assumption) | assumption); obtain ⟨ad266, e266, hx266_0, hx266_1, hx266_2, hx266_3⟩ := at_T107 (Kd.R_reads' HO_4.out).2.2 x6_2 p266 q266; cases e266; replace p266 := eq_true p266; replace q266 := eq_true q266; have p267 : 0 ≤ ((ji20) : Int) := of_decide_eq_true (by first | (with_reducible assumption) | assumption); have q267 : (ji20) < (t261.length : Int) := of_decide_eq_true (by first | (with_reducible assumption) | assumption); obtain ⟨ad267, e267, hx267_0, hx267_1, hx267_2, hx267_3⟩ := at_T107 (Kd.R_reads' HO_4.out).2.2 (ji20) p267 q267; obtain rfl : ad266 = ad267 := (by injection e267); replace p267 := eq_true p267; replace q267 := eq_true q267; have p269 : 0 ≤ ((ji20) : Int) := of_decide_eq_true (by first | (with_reducible assumption) | assumption); have q269 : (ji20) < (t261.length : Int) := of_decide_eq_true (by first | (with_reducible assumption) | assumption); obtain ⟨ad269, e269, hx269_0, hx269_1, hx269_2, hx269_3⟩ := at_T107 (Kd.R_reads' HO_4.out).2.2 (ji20) p269 q269; obtain rfl : ad266 = ad269 := (by injection e269); replace p269 := eq_true p269; replace q269 := eq_true q269; have p270 : 0 ≤ (x6_2 : Int) := of_decide_eq_true (by first | (with_reducible assumption) | assumption); have q270 : x6_2 < (t261.length : Int) := of_decide_eq_true (by first | (with_reducible assumption) | assumption); obtain ⟨ad270, e270, hx270_0, hx270_1, hx270_2, hx270_3⟩ := at_T107 (Kd.R_reads' HO_4.out).2.2 x6_2 p270 q270; obtain rfl : ad266 = ad270 := (by injection e270); replace p270 := eq_true p270; replace q270 := eq_true q270; refine start_ (n := 28) (S := fun w' => w'.cell? (ad266.add ((x6_2).toNat * 4)) = some (.int .i64 ((rd_T107 t261 x6_2).f0.f0)) ∧ w'.cell? ⟨(ad266.add ((x6_2).toNat * 4)).block, (ad266.add ((x6_2).toNat * 4)).off + 1, none⟩ = some (.int .i64 ((rd_T107 t261 x6_2).f0.f1)) ∧ w'.cell? ⟨(ad266.add ((x6_2).toNat * 4)).block, (ad266.add ((x6_2).toNat * 4)).off + 2, none⟩ = some (.int .i64 ((rd_T107 t261 x6_2).f1.f0)) ∧ w'.cell? ⟨(ad266.add ((x6_2).toNat * 4)).block, (ad266.add ((x6_2).toNat * 4)).off + 3, none⟩ = some (.int .i64 ((rd_T107 t261 x6_2).f1.f1)) ∧ w'.cell? (ad266.add (((ji20)).toNat * 4)) = some (.int .i64 ((rd_T107 t261 (ji20)).f0.f0)) ∧ w'.cell? ⟨(ad266.add (((ji20)).toNat * 4)).block, (ad266.add (((ji20)).toNat * 4)).off + 1, none⟩ = some (.int .i64 ((rd_T107 t261 (ji20)).f0.f1)) ∧ w'.cell? ⟨(ad266.add (((ji20)).toNat * 4)).block, (ad266.add (((ji20)).toNat * 4)).off + 2, none⟩ = some (.int .i64 ((rd_T107 t261 (ji20)).f1.f0)) ∧ w'.cell? ⟨(ad266.add (((ji20)).toNat * 4)).block, (ad266.add (((ji20)).toNat * 4)).off + 3, none⟩ = some (.int .i64 ((rd_T107 t261 (ji20)).f1.f1)) ∧ w'.cell? (ad266.add (((ji20)).toNat * 4)) = some (.int .i64 ((rd_T107 t261 (ji20)).f0.f0)) ∧ w'.cell? ⟨(ad266.add (((ji20)).toNat * 4)).block, (ad266.add (((ji20)).toNat * 4)).off + 1, none⟩ = some (.int .i64 ((rd_T107 t261 (ji20)).f0.f1)) ∧ w'.cell? ⟨(ad266.add (((ji20)).toNat * 4)).block, (ad266.add (((ji20)).toNat * 4)).off + 2, none⟩ = some (.int .i64 ((rd_T107 t261 (ji20)).f1.f0)) ∧ w'.cell? ⟨(ad266.add (((ji20)).toNat * 4)).block, (ad266.add (((ji20)).toNat * 4)).off + 3, none⟩ = some (.int .i64 ((rd_T107 t261 (ji20)).f1.f1)) ∧ w'.cell? (ad266.add ((x6_2).toNat * 4)) = some (.int .i64 ((rd_T107 t261 x6_2).f0.f0)) ∧ w'.cell? ⟨(ad266.add ((x6_2).toNat * 4)).block, (ad266.add ((x6_2).toNat * 4)).off + 1, none⟩ = some (.int .i64 ((rd_T107 t261 x6_2).f0.f1)) ∧ w'.cell? ⟨(ad266.add ((x6_2).toNat * 4)).block, (ad266.add ((x6_2).toNat * 4)).off + 2, none⟩ = some (.int .i64 ((rd_T107 t261 x6_2).f1.f0)) ∧ w'.cell? ⟨(ad266.add ((x6_2).toNat * 4)).block, (ad266.add ((x6_2).toNat * 4)).off + 3, none⟩ = some (.int .i64 ((rd_T107 t261 x6_2).f1.f1))) (ds := []) #[false, false, false, false, false, false, false, false, false, false, false, false, false, false, false, false, false, false, false, false, false, false, false, false, false, false, false, false] (by kernel_rfl) rfl rfl ⟨hx266_0, hx266_1, hx266_2, hx266_3, hx267_0, hx267_1, hx267_2, hx267_3, hx269_0, hx269_1, hx269_2, hx269_3, hx270_0, hx270_1, hx270_2, hx270_3⟩ (fun hHeld => ?_); refine with_tabW spec_LoopOk.tab13 spec_LoopOk.bits13 (fun HT_ HW_ => ?_)
               generalize wr.drew = w29 at HO_4 HB hx266_0 hx266_1 hx266_2 hx266_3 hx267_0 hx267_1 hx267_2 hx267_3 hx269_0 hx269_1 hx269_2 hx269_3 hx270_0 hx270_1 hx270_2 hx270_3 hHeld ⊢
               refine pu_ HT_.out 0 31 {} ?_; refine pu_ HT_.out 1 32 {} ?_; refine pu_ HT_.out 2 33 {} ?_; refine pu_ HT_.out 4 35 {} ?_; refine pu_ HT_.out 5 36 {} ?_; refine pu_ HT_.out 6 37 {} ?_; refine pu_ HT_.out 7 38 {} ?_; refine pu_ HT_.out 8 39 {} ?_; refine pu_ HT_.out 9 40 {} ?_; refine pu_ HT_.out 10 41 {} ?_; refine tk_ HT_.out HW_.out 3 34 hHeld {} ?_; refine tk_ HT_.out HW_.out 11 42 hHeld {} ?_
               refine one_ (i := 12) (N := some 43) #[true, true, true, true, true, true, true, true, true, true, true, true, true, false, false, false, false, false, false, false, false, false, false, false, false, false, false, false] rfl rfl (one_of HT_.out (by kernel_rfl)) (by decide) (fun K hK => ?_); refine goes_ Tryd.func86 (by kernel_rfl) rfl #[.agg #[.int .i64 ((rd_T107 t261 x6_2).f0.f0), .int .i64 ((rd_T107 t261 x6_2).f0.f1), .int .i64 ((rd_T107 t261 x6_2).f1.f0), .int .i64 ((rd_T107 t261 x6_2).f1.f1)], .agg #[.int .i64 ((rd_T107 t261 (ji20)).f1.f0), .int .i64 ((rd_T107 t261 (ji20)).f1.f1)]] (by rfl) rfl rfl (by (try simp only [List.map_toArray, List.map_cons, List.map_nil]); first | done | (simp only [hji20]; rfl) | rfl | (simp only [List.length_drop, List.length_take]; rfl)) ?_; with_reducible refine (spec_l2Has.calls ((rd_T107 t261 x6_2).f0.f0) ((rd_T107 t261 x6_2).f0.f1) ((rd_T107 t261 x6_2).f1.f0) ((rd_T107 t261 x6_2).f1.f1) ((rd_T107 t261 (ji20)).f1.f0) ((rd_T107 t261 (ji20)).f1.f1) false _ A23.out).mono ?_
               rintro e w31 ⟨rfl, hb⟩; have HS0_ := (hb.cell (World.block_lt_of_cell? _ _ (hHeld.1))).trans (hHeld.1); have HS1_ := (hb.cell (World.block_lt_of_cell? _ _ (hHeld.2.1))).trans (hHeld.2.1); have HS2_ := (hb.cell (World.block_lt_of_cell? _ _ (hHeld.2.2.1))).trans (hHeld.2.2.1); have HS3_ := (hb.cell (World.block_lt_of_cell? _ _ (hHeld.2.2.2.1))).trans (hHeld.2.2.2.1); have HS4_ := (hb.cell (World.block_lt_of_cell? _ _ (hHeld.2.2.2.2.1))).trans (hHeld.2.2.2.2.1); have HS5_ := (hb.cell (World.block_lt_of_cell? _ _ (hHeld.2.2.2.2.2.1))).trans (hHeld.2.2.2.2.2.1); have HS6_ := (hb.cell (World.block_lt_of_cell? _ _ (hHeld.2.2.2.2.2.2.1))).trans (hHeld.2.2.2.2.2.2.1); have HS7_ := (hb.cell (World.block_lt_of_cell? _ _ (hHeld.2.2.2.2.2.2.2.1))).trans (hHeld.2.2.2.2.2.2.2.1); have HS8_ := (hb.cell (World.block_lt_of_cell? _ _ (hHeld.2.2.2.2.2.2.2.2.1))).trans (hHeld.2.2.2.2.2.2.2.2.1); have HS9_ := (hb.cell (World.block_lt_of_cell? _ _ (hHeld.2.2.2.2.2.2.2.2.2.1))).trans (hHeld.2.2.2.2.2.2.2.2.2.1); have HS10_ := (hb.cell (World.block_lt_of_cell? _ _ (hHeld.2.2.2.2.2.2.2.2.2.2.1))).trans (hHeld.2.2.2.2.2.2.2.2.2.2.1); have HS11_ := (hb.cell (World.block_lt_of_cell? _ _ (hHeld.2.2.2.2.2.2.2.2.2.2.2.1))).trans (hHeld.2.2.2.2.2.2.2.2.2.2.2.1); have HS12_ := (hb.cell (World.block_lt_of_cell? _ _ (hHeld.2.2.2.2.2.2.2.2.2.2.2.2.1))).trans (hHeld.2.2.2.2.2.2.2.2.2.2.2.2.1); have HS13_ := (hb.cell (World.block_lt_of_cell? _ _ (hHeld.2.2.2.2.2.2.2.2.2.2.2.2.2.1))).trans (hHeld.2.2.2.2.2.2.2.2.2.2.2.2.2.1); have HS14_ := (hb.cell (World.block_lt_of_cell? _ _ (hHeld.2.2.2.2.2.2.2.2.2.2.2.2.2.2.1))).trans (hHeld.2.2.2.2.2.2.2.2.2.2.2.2.2.2.1); have HS15_ := (hb.cell (World.block_lt_of_cell? _ _ (hHeld.2.2.2.2.2.2.2.2.2.2.2.2.2.2.2))).trans (hHeld.2.2.2.2.2.2.2.2.2.2.2.2.2.2.2); refine ⟨_, rfl, ?_⟩; have n0_ := Aside0.mk (Kd.R_below (by (with_reducible repeat (first | apply Kd.R_alloc | apply Kd.R_drewN | apply Kd.R_drew)); exact HO_4.out) hb); have n1_ := Aside0.mk (below_step (by repeat (first | (with_reducible first | exact HB.out | apply below_alloc | apply pw_below_drewN | apply below_drew1) | exact HB.out)) hb); clear HO_4; clear HB; have HO_4 := n0_; have HB := n1_; clear n0_ n1_; (try clear hb); (try clear hb2); (try clear hk); (try clear hi); refine hK.out _ _ ⟨HS0_, HS1_, HS2_, HS3_, HS4_, HS5_, HS6_, HS7_, HS8_, HS9_, HS10_, HS11_, HS12_, HS13_, HS14_, HS15_⟩ (fun hHeld => ?_); clear hK K; refine norm_ (a' := ?_) ?_ ?_; rotate_left; ·show Act.put _ (some 43) _ = _; simp only [Act.put, Geo.sa_, Geo.sb_, Geo.sc_, i64_w, i32_w]; rfl
               refine pu_ HT_.out 13 44 {} ?_; refine pu_ HT_.out 14 45 {} ?_; refine pu_ HT_.out 15 46 {} ?_; refine pu_ HT_.out 16 47 {} ?_; refine pu_ HT_.out 17 48 {} ?_; refine pu_ HT_.out 18 49 {} ?_; refine pu_ HT_.out 19 50 {} ?_; refine pu_ HT_.out 21 52 {} ?_; refine pu_ HT_.out 22 53 {} ?_; refine pu_ HT_.out 23 54 {} ?_; refine pu_ HT_.out 24 55 {} ?_; refine tk_ HT_.out HW_.out 20 51 hHeld {} ?_; refine tk_ HT_.out HW_.out 25 56 hHeld {} ?_
               refine one_ (i := 26) (N := some 57) #[true, true, true, true, true, true, true, true, true, true, true, true, true, true, true, true, true, true, true, true, true, true, true, true, true, true, true, false] rfl rfl (one_of HT_.out (by kernel_rfl)) (by decide) (fun K hK => ?_); refine goes_ Tryd.func86 (by kernel_rfl) rfl #[.agg #[.int .i64 ((rd_T107 t261 (ji20)).f0.f0), .int .i64 ((rd_T107 t261 (ji20)).f0.f1), .int .i64 ((rd_T107 t261 (ji20)).f1.f0), .int .i64 ((rd_T107 t261 (ji20)).f1.f1)], .agg #[.int .i64 ((rd_T107 t261 x6_2).f0.f0), .int .i64 ((rd_T107 t261 x6_2).f0.f1)]] (by rfl) rfl rfl (by (try simp only [List.map_toArray, List.map_cons, List.map_nil]); first | done | (simp only [hji20]; rfl) | rfl | (simp only [List.length_drop, List.length_take]; rfl)) ?_; with_reducible refine (spec_l2Has.calls ((rd_T107 t261 (ji20)).f0.f0) ((rd_T107 t261 (ji20)).f0.f1) ((rd_T107 t261 (ji20)).f1.f0) ((rd_T107 t261 (ji20)).f1.f1) ((rd_T107 t261 x6_2).f0.f0) ((rd_T107 t261 x6_2).f0.f1) t271 _ A28.out).mono ?_
               rintro e w32 ⟨rfl, hb⟩; have HS0_ := (hb.cell (World.block_lt_of_cell? _ _ (hHeld.1))).trans (hHeld.1); have HS1_ := (hb.cell (World.block_lt_of_cell? _ _ (hHeld.2.1))).trans (hHeld.2.1); have HS2_ := (hb.cell (World.block_lt_of_cell? _ _ (hHeld.2.2.1))).trans (hHeld.2.2.1); have HS3_ := (hb.cell (World.block_lt_of_cell? _ _ (hHeld.2.2.2.1))).trans (hHeld.2.2.2.1); have HS4_ := (hb.cell (World.block_lt_of_cell? _ _ (hHeld.2.2.2.2.1))).trans (hHeld.2.2.2.2.1); have HS5_ := (hb.cell (World.block_lt_of_cell? _ _ (hHeld.2.2.2.2.2.1))).trans (hHeld.2.2.2.2.2.1); have HS6_ := (hb.cell (World.block_lt_of_cell? _ _ (hHeld.2.2.2.2.2.2.1))).trans (hHeld.2.2.2.2.2.2.1); have HS7_ := (hb.cell (World.block_lt_of_cell? _ _ (hHeld.2.2.2.2.2.2.2.1))).trans (hHeld.2.2.2.2.2.2.2.1); have HS8_ := (hb.cell (World.block_lt_of_cell? _ _ (hHeld.2.2.2.2.2.2.2.2.1))).trans (hHeld.2.2.2.2.2.2.2.2.1); have HS9_ := (hb.cell (World.block_lt_of_cell? _ _ (hHeld.2.2.2.2.2.2.2.2.2.1))).trans (hHeld.2.2.2.2.2.2.2.2.2.1); have HS10_ := (hb.cell (World.block_lt_of_cell? _ _ (hHeld.2.2.2.2.2.2.2.2.2.2.1))).trans (hHeld.2.2.2.2.2.2.2.2.2.2.1); have HS11_ := (hb.cell (World.block_lt_of_cell? _ _ (hHeld.2.2.2.2.2.2.2.2.2.2.2.1))).trans (hHeld.2.2.2.2.2.2.2.2.2.2.2.1); have HS12_ := (hb.cell (World.block_lt_of_cell? _ _ (hHeld.2.2.2.2.2.2.2.2.2.2.2.2.1))).trans (hHeld.2.2.2.2.2.2.2.2.2.2.2.2.1); have HS13_ := (hb.cell (World.block_lt_of_cell? _ _ (hHeld.2.2.2.2.2.2.2.2.2.2.2.2.2.1))).trans (hHeld.2.2.2.2.2.2.2.2.2.2.2.2.2.1); have HS14_ := (hb.cell (World.block_lt_of_cell? _ _ (hHeld.2.2.2.2.2.2.2.2.2.2.2.2.2.2.1))).trans (hHeld.2.2.2.2.2.2.2.2.2.2.2.2.2.2.1); have HS15_ := (hb.cell (World.block_lt_of_cell? _ _ (hHeld.2.2.2.2.2.2.2.2.2.2.2.2.2.2.2))).trans (hHeld.2.2.2.2.2.2.2.2.2.2.2.2.2.2.2); refine ⟨_, rfl, ?_⟩; have n0_ := Aside0.mk (Kd.R_below (by (with_reducible repeat (first | apply Kd.R_alloc | apply Kd.R_drewN | apply Kd.R_drew)); exact HO_4.out) hb); have n1_ := Aside0.mk (below_step (by repeat (first | (with_reducible first | exact HB.out | apply below_alloc | apply pw_below_drewN | apply below_drew1) | exact HB.out)) hb); clear HO_4; clear HB; have HO_4 := n0_; have HB := n1_; clear n0_ n1_; (try clear hb); (try clear hb2); (try clear hk); (try clear hi); refine hK.out _ _ ⟨HS0_, HS1_, HS2_, HS3_, HS4_, HS5_, HS6_, HS7_, HS8_, HS9_, HS10_, HS11_, HS12_, HS13_, HS14_, HS15_⟩ (fun hHeld => ?_); clear hK K; refine norm_ (a' := ?_) ?_ ?_; rotate_left; ·show Act.put _ (some 57) _ = _; simp only [Act.put, Geo.sa_, Geo.sb_, Geo.sc_, i64_w, i32_w]; rfl
               refine pu_ HT_.out 27 58 {} ?_
               refine done_ (done_of HT_.out (by kernel_rfl)) ?_; try go_wp2
               go_meet
               case rel => exact ⟨_, (t271), (by first | rfl | (simp; done) | (simp [*]; done)), H', ⟨by have := HK1.out; have := HK2.out; first | omega | exact Nat.le_refl _⟩, ⟨by (with_reducible repeat (first | apply Kd.R_alloc | apply Kd.R_drewN | apply Kd.R_drew)); exact HO_4.out⟩, ⟨by repeat (first | (with_reducible first | exact HB.out | apply below_alloc | apply pw_below_drewN | apply below_drew1) | exact HB.out)⟩⟩
             ·rw [if_neg c22] at H; exact absurd H (by simp)
            ·rw [if_neg c21] at H; exact absurd H (by simp)
          ·rw [if_neg c18] at H; exact absurd H (by simp)
         ·rw [if_neg c17] at H; exact absurd H (by simp)
        case rest =>
         clear HC16; try clear c1
         try clear c2
         try clear p2
         try clear q2
         try clear hx2
         try clear p6
         try clear c8
         try clear c17
         try clear c18
         try clear c19
         try clear c19b0
         try clear c19b1
         try clear c19b2
         try clear c21
         try clear c21b0
         try clear c22
         try clear c22b0
         try clear c24
         try clear p26
         try clear q26
         try clear hx26
         try clear p27
         try clear q27
         try clear hx27
         try clear hx266_0
         try clear hx266_1
         try clear hx266_2
         try clear hx266_3
         try clear hx267_0
         try clear hx267_1
         try clear hx267_2
         try clear hx267_3
         try clear hx269_0
         try clear hx269_1
         try clear hx269_2
         try clear hx269_3
         try clear hx270_0
         try clear hx270_1
         try clear hx270_2
         try clear hx270_3
         try clear p266
         try clear p267
         try clear p269
         try clear p270
         try clear q266
         try clear q267
         try clear q269
         try clear q270
         obtain ⟨kq, x58_15, rfl, HA, HJ15, HO_4, HB⟩ := hcut; cases kq with
         | zero => exact absurd HA.out (by simp [spec_LoopOk.j2])
         | succ kj15 =>
          have H := HA.out; clear HA; simp only [spec_LoopOk.j2] at H; by_cases c33 : x58_15 = true
          ·subst c33; have H1 : (some false) = some r := by rw [if_pos rfl] at H; exact H
           clear H; have H := H1; clear H1; obtain rfl := Option.some.inj H; go_wp2
           go_ret
           exact ⟨by first | rfl | (simp [errW_none, errW_some] <;> rfl) | (simp [*, errW_none, errW_some] <;> rfl), by repeat (first | (with_reducible first | exact HB.out | apply below_alloc | apply pw_below_drewN | apply below_drew1) | exact HB.out)⟩
          ·replace c33 := Bool.eq_false_iff.mpr c33; subst c33; have H1 : (spec_LoopOk.l2 kj15 (l0.length : Int) t261 x6_2 (wrap64 (x6_2 + 2))) = some r := by rw [if_neg (show ¬ (false = true) by decide)] at H; exact H
           clear H; have H := H1; clear H1; have H' := Aside0.mk H; clear H; go_wp2
           go_loopg [7] kj15 (fun kq v7 w' => ∃ (x7_4 : Int), v7 = .int .i64 x7_4 ∧ Aside0 (spec_LoopOk.l2 kq (l0.length : Int) t261 x6_2 x7_4 = some r) ∧ Aside0 (kq ≤ kj15) ∧ Aside0 (Kd.R k107 107 w' w.heap.size (fun _ => True) v262 t261) ∧ Aside0 (Below w.heap.size w w'))
           case atStart => exact ⟨(wrap64 (x6_2 + 2)), (by first | rfl | (simp; done) | (simp [*]; done)), H', ⟨Nat.le_refl _⟩, ⟨by (with_reducible repeat (first | apply Kd.R_alloc | apply Kd.R_drewN | apply Kd.R_drew)); exact HO_4.out⟩, ⟨by repeat (first | (with_reducible first | exact HB.out | apply below_alloc | apply pw_below_drewN | apply below_drew1) | exact HB.out)⟩⟩
           case round =>
            clear H'; try clear c1
            try clear c2
            try clear p2
            try clear q2
            try clear hx2
            try clear c3
            try clear p6
            try clear c8
            try clear c17
            try clear c18
            try clear c19
            try clear c19b0
            try clear c19b1
            try clear c19b2
            try clear c21
            try clear c21b0
            try clear c22
            try clear c22b0
            try clear c24
            try clear p26
            try clear q26
            try clear hx26
            try clear p27
            try clear q27
            try clear hx27
            try clear c33
            try clear hx266_0
            try clear hx266_1
            try clear hx266_2
            try clear hx266_3
            try clear hx267_0
            try clear hx267_1
            try clear hx267_2
            try clear hx267_3
            try clear hx269_0
            try clear hx269_1
            try clear hx269_2
            try clear hx269_3
            try clear hx270_0
            try clear hx270_1
            try clear hx270_2
            try clear hx270_3
            try clear p2
            try clear p26
            try clear p266
            try clear p267
            try clear p269
            try clear p27
            try clear p270
            try clear p6
            try clear q2
            try clear q26
            try clear q266
            try clear q267
            try clear q269
            try clear q27
            try clear q270
            obtain ⟨x7_4, rfl, HA, HK4, HO_4, HB⟩ := hrel; cases gk with
            | zero => exact absurd HA.out (by simp [spec_LoopOk.l2])
            | succ k4 =>
             have H := HA.out; clear HA; simp only [spec_LoopOk.l2] at H; by_cases c34 : x7_4 < (l0.length : Int)
             ·rw [if_pos c34] at H; have c34b0 : decide (x7_4 < (l0.length : Int)) = true := decide_eq_true c34; clear c34; by_cases c35 : (l0.length : Int) = 0
              ·rw [if_pos c35] at H; exact absurd H (by simp)
              ·rw [if_neg c35] at H; have c35b0 : ((l0.length : Int) == 0) = false := beq_eq_false_iff_ne.mpr c35; have c35b1 : ((l0.length : Int) != 0) = true := bne_iff_ne.mpr c35; have c35b2 : ¬ (l0 = []) := fun h_ => c35 (by rw [h_]; rfl)
               by_cases c36 : (Int.tmod (wrap64 (x7_4 + 1)) (l0.length : Int)) = x6_2
               ·rw [if_pos c36] at H; have c36b0 : ((Int.tmod (wrap64 (x7_4 + 1)) (l0.length : Int)) == x6_2) = true := beq_iff_eq.mpr c36; have c36b1 : ((Int.tmod (wrap64 (x7_4 + 1)) (l0.length : Int)) != x6_2) = false := bne_eq_false_iff_eq.mpr c36; clear c36; have H' := Aside0.mk H; clear H; try go_wp2
                have n0_ := Aside0.mk (Kd.R_drew HO_4.out); have n1_ := Aside0.mk (below_drew1 HB.out); clear HO_4; clear HB; have HO_4 := n0_; have HB := n1_; clear n0_ n1_; refine start_ (n := 17) (S := fun w' => True) (ds := []) #[false, false, false, false, false, false, false, false, false, false, false, false, false, false, false, false, false] (by kernel_rfl) rfl rfl trivial (fun hHeld => ?_); refine with_tabW spec_LoopOk.tab18 spec_LoopOk.bits18 (fun HT_ HW_ => ?_)
                generalize wr.drew = w37 at HO_4 HB hHeld ⊢
                refine pu_ HT_.out 0 66 {} ?_; refine pu_ HT_.out 1 67 {} ?_; refine pu_ HT_.out 2 68 {} ?_; refine pu_ HT_.out 3 69 {} ?_; refine pu_ HT_.out 4 70 {} ?_; refine pu_ HT_.out 5 71 {} ?_; refine pu_ HT_.out 6 72 {} ?_; refine pv_ HT_.out 7 73 {} ?_; refine pv_ HT_.out 8 74 {} ?_; refine pv_ HT_.out 9 75 {} ?_; refine pv_ HT_.out 10 76 {} ?_; refine pv_ HT_.out 11 77 {} ?_; refine pv_ HT_.out 12 78 {} ?_; refine pv_ HT_.out 13 79 {} ?_; refine pv_ HT_.out 14 80 {} ?_; refine pv_ HT_.out 15 81 {} ?_; refine pu_ HT_.out 16 82 {} ?_
                refine done_ (done_of HT_.out (by kernel_rfl)) ?_; try go_wp2
                go_roundg k4
                case measure => have := HK1.out; have := HK2.out; have := HJ15.out; have := HK4.out; omega
                case rel => exact ⟨(wrap64 (x7_4 + 1)), (by first | rfl | (simp; done) | (simp [*]; done)), H', ⟨by have := HK1.out; have := HK2.out; have := HJ15.out; have := HK4.out; omega⟩, ⟨by (with_reducible repeat (first | apply Kd.R_alloc | apply Kd.R_drewN | apply Kd.R_drew)); exact HO_4.out⟩, ⟨by repeat (first | (with_reducible first | exact HB.out | apply below_alloc | apply pw_below_drewN | apply below_drew1) | exact HB.out)⟩⟩
               ·rw [if_neg c36] at H; have c36b0 : ((Int.tmod (wrap64 (x7_4 + 1)) (l0.length : Int)) == x6_2) = false := beq_eq_false_iff_ne.mpr c36; have c36b1 : ((Int.tmod (wrap64 (x7_4 + 1)) (l0.length : Int)) != x6_2) = true := bne_iff_ne.mpr c36; by_cases c38 : 0 ≤ x6_2
                ·rw [if_pos c38] at H; have c38b0 : decide (0 ≤ x6_2) = true := decide_eq_true c38; clear c38; by_cases c39 : x6_2 < (t261.length : Int)
                 ·rw [if_pos c39] at H; have c39b0 : decide (x6_2 < (t261.length : Int)) = true := decide_eq_true c39; clear c39; by_cases c40 : 0 ≤ x7_4
                  ·rw [if_pos c40] at H; have c40b0 : decide (0 ≤ x7_4) = true := decide_eq_true c40; clear c40; by_cases c41 : x7_4 < (t261.length : Int)
                   ·rw [if_pos c41] at H; have c41b0 : decide (x7_4 < (t261.length : Int)) = true := decide_eq_true c41; clear c41; replace H := Option.bind_eq_some_iff.mp H; obtain ⟨t274, A420, H⟩ := H; replace H : (if t274 = true then (some false) else (spec_LoopOk.l2 k4 (l0.length : Int) t261 x6_2 (wrap64 (x7_4 + 1)))) = some r := H; have A42 := Aside0.mk A420; clear A420; by_cases c43 : t274 = true
                    ·subst c43; have H1 : (some false) = some r := by rw [if_pos rfl] at H; exact H
                     clear H; have H := H1; clear H1; obtain rfl := Option.some.inj H; try go_wp2
                     have n0_ := Aside0.mk (Kd.R_drew HO_4.out); have n1_ := Aside0.mk (below_drew1 HB.out); clear HO_4; clear HB; have HO_4 := n0_; have HB := n1_; clear n0_ n1_; obtain ⟨Ao45, co45, eo45⟩ := Kd.R_slice HO_4.out; (first | subst eo45 | (injection eo45 with f1_ f2_ f3_; have f4_ := f1_.symm; have f5_ := f3_.symm; clear f1_ f2_ f3_; subst f4_; subst f5_)); have p272 : 0 ≤ (x6_2 : Int) := of_decide_eq_true (by first | (with_reducible assumption) | assumption); have q272 : x6_2 < (t261.length : Int) := of_decide_eq_true (by first | (with_reducible assumption) | assumption); obtain ⟨ad272, e272, hx272_0, hx272_1, hx272_2, hx272_3⟩ := at_T107 (Kd.R_reads' HO_4.out).2.2 x6_2 p272 q272; cases e272; replace p272 := eq_true p272; replace q272 := eq_true q272; have p273 : 0 ≤ (x7_4 : Int) := of_decide_eq_true (by first | (with_reducible assumption) | assumption); have q273 : x7_4 < (t261.length : Int) := of_decide_eq_true (by first | (with_reducible assumption) | assumption); obtain ⟨ad273, e273, hx273_0, hx273_1, hx273_2, hx273_3⟩ := at_T107 (Kd.R_reads' HO_4.out).2.2 x7_4 p273 q273; obtain rfl : ad272 = ad273 := (by injection e273); replace p273 := eq_true p273; replace q273 := eq_true q273; refine start_ (n := 17) (S := fun w' => w'.cell? (ad272.add ((x6_2).toNat * 4)) = some (.int .i64 ((rd_T107 t261 x6_2).f0.f0)) ∧ w'.cell? ⟨(ad272.add ((x6_2).toNat * 4)).block, (ad272.add ((x6_2).toNat * 4)).off + 1, none⟩ = some (.int .i64 ((rd_T107 t261 x6_2).f0.f1)) ∧ w'.cell? ⟨(ad272.add ((x6_2).toNat * 4)).block, (ad272.add ((x6_2).toNat * 4)).off + 2, none⟩ = some (.int .i64 ((rd_T107 t261 x6_2).f1.f0)) ∧ w'.cell? ⟨(ad272.add ((x6_2).toNat * 4)).block, (ad272.add ((x6_2).toNat * 4)).off + 3, none⟩ = some (.int .i64 ((rd_T107 t261 x6_2).f1.f1)) ∧ w'.cell? (ad272.add ((x7_4).toNat * 4)) = some (.int .i64 ((rd_T107 t261 x7_4).f0.f0)) ∧ w'.cell? ⟨(ad272.add ((x7_4).toNat * 4)).block, (ad272.add ((x7_4).toNat * 4)).off + 1, none⟩ = some (.int .i64 ((rd_T107 t261 x7_4).f0.f1)) ∧ w'.cell? ⟨(ad272.add ((x7_4).toNat * 4)).block, (ad272.add ((x7_4).toNat * 4)).off + 2, none⟩ = some (.int .i64 ((rd_T107 t261 x7_4).f1.f0)) ∧ w'.cell? ⟨(ad272.add ((x7_4).toNat * 4)).block, (ad272.add ((x7_4).toNat * 4)).off + 3, none⟩ = some (.int .i64 ((rd_T107 t261 x7_4).f1.f1))) (ds := []) #[false, false, false, false, false, false, false, false, false, false, false, false, false, false, false, false, false] (by kernel_rfl) rfl rfl ⟨hx272_0, hx272_1, hx272_2, hx272_3, hx273_0, hx273_1, hx273_2, hx273_3⟩ (fun hHeld => ?_); refine with_tabW spec_LoopOk.tab18 spec_LoopOk.bits18 (fun HT_ HW_ => ?_)
                     generalize wr.drew = w44 at HO_4 HB hx272_0 hx272_1 hx272_2 hx272_3 hx273_0 hx273_1 hx273_2 hx273_3 hHeld ⊢
                     refine pu_ HT_.out 0 66 {} ?_; refine pu_ HT_.out 1 67 {} ?_; refine pu_ HT_.out 2 68 {} ?_; refine pu_ HT_.out 3 69 {} ?_; refine pu_ HT_.out 4 70 {} ?_; refine pu_ HT_.out 5 71 {} ?_; refine pu_ HT_.out 6 72 {} ?_; refine pu_ HT_.out 7 73 {} ?_; refine pu_ HT_.out 8 74 {} ?_; refine pu_ HT_.out 9 75 {} ?_; refine pu_ HT_.out 11 77 {} ?_; refine pu_ HT_.out 12 78 {} ?_; refine pu_ HT_.out 13 79 {} ?_; refine tk_ HT_.out HW_.out 10 76 hHeld {} ?_; refine tk_ HT_.out HW_.out 14 80 hHeld {} ?_
                     refine one_ (i := 15) (N := some 81) #[true, true, true, true, true, true, true, true, true, true, true, true, true, true, true, true, false] rfl rfl (one_of HT_.out (by kernel_rfl)) (by decide) (fun K hK => ?_); refine goes_ Tryd.func87 (by kernel_rfl) rfl #[.agg #[.int .i64 ((rd_T107 t261 x6_2).f0.f0), .int .i64 ((rd_T107 t261 x6_2).f0.f1), .int .i64 ((rd_T107 t261 x6_2).f1.f0), .int .i64 ((rd_T107 t261 x6_2).f1.f1)], .agg #[.int .i64 ((rd_T107 t261 x7_4).f0.f0), .int .i64 ((rd_T107 t261 x7_4).f0.f1), .int .i64 ((rd_T107 t261 x7_4).f1.f0), .int .i64 ((rd_T107 t261 x7_4).f1.f1)]] (by rfl) rfl rfl (by (try simp only [List.map_toArray, List.map_cons, List.map_nil]); first | done | rfl | (simp only [List.length_drop, List.length_take]; rfl)) ?_; with_reducible refine (spec_l2Meet.calls ((rd_T107 t261 x6_2).f0.f0) ((rd_T107 t261 x6_2).f0.f1) ((rd_T107 t261 x6_2).f1.f0) ((rd_T107 t261 x6_2).f1.f1) ((rd_T107 t261 x7_4).f0.f0) ((rd_T107 t261 x7_4).f0.f1) ((rd_T107 t261 x7_4).f1.f0) ((rd_T107 t261 x7_4).f1.f1) true _ A42.out).mono ?_
                     rintro e w46 ⟨rfl, hb⟩; have HS0_ := (hb.cell (World.block_lt_of_cell? _ _ (hHeld.1))).trans (hHeld.1); have HS1_ := (hb.cell (World.block_lt_of_cell? _ _ (hHeld.2.1))).trans (hHeld.2.1); have HS2_ := (hb.cell (World.block_lt_of_cell? _ _ (hHeld.2.2.1))).trans (hHeld.2.2.1); have HS3_ := (hb.cell (World.block_lt_of_cell? _ _ (hHeld.2.2.2.1))).trans (hHeld.2.2.2.1); have HS4_ := (hb.cell (World.block_lt_of_cell? _ _ (hHeld.2.2.2.2.1))).trans (hHeld.2.2.2.2.1); have HS5_ := (hb.cell (World.block_lt_of_cell? _ _ (hHeld.2.2.2.2.2.1))).trans (hHeld.2.2.2.2.2.1); have HS6_ := (hb.cell (World.block_lt_of_cell? _ _ (hHeld.2.2.2.2.2.2.1))).trans (hHeld.2.2.2.2.2.2.1); have HS7_ := (hb.cell (World.block_lt_of_cell? _ _ (hHeld.2.2.2.2.2.2.2))).trans (hHeld.2.2.2.2.2.2.2); refine ⟨_, rfl, ?_⟩; have n0_ := Aside0.mk (Kd.R_below (by (with_reducible repeat (first | apply Kd.R_alloc | apply Kd.R_drewN | apply Kd.R_drew)); exact HO_4.out) hb); have n1_ := Aside0.mk (below_step (by repeat (first | (with_reducible first | exact HB.out | apply below_alloc | apply pw_below_drewN | apply below_drew1) | exact HB.out)) hb); clear HO_4; clear HB; have HO_4 := n0_; have HB := n1_; clear n0_ n1_; (try clear hb); (try clear hb2); (try clear hk); (try clear hi); refine hK.out _ _ ⟨HS0_, HS1_, HS2_, HS3_, HS4_, HS5_, HS6_, HS7_⟩ (fun hHeld => ?_); clear hK K; refine norm_ (a' := ?_) ?_ ?_; rotate_left; ·show Act.put _ (some 81) _ = _; simp only [Act.put, Geo.sa_, Geo.sb_, Geo.sc_, i64_w, i32_w]; rfl
                     refine pu_ HT_.out 16 82 {} ?_
                     refine done_ (done_of HT_.out (by kernel_rfl)) ?_; try go_wp2
                     go_ret
                     exact ⟨by first | rfl | (simp [errW_none, errW_some] <;> rfl) | (simp [*, errW_none, errW_some] <;> rfl), by repeat (first | (with_reducible first | exact HB.out | apply below_alloc | apply pw_below_drewN | apply below_drew1) | exact HB.out)⟩
                    ·replace c43 := Bool.eq_false_iff.mpr c43; subst c43; have H1 : (spec_LoopOk.l2 k4 (l0.length : Int) t261 x6_2 (wrap64 (x7_4 + 1))) = some r := by rw [if_neg (show ¬ (false = true) by decide)] at H; exact H
                     clear H; have H := H1; clear H1; have H' := Aside0.mk H; clear H; try go_wp2
                     have n0_ := Aside0.mk (Kd.R_drew HO_4.out); have n1_ := Aside0.mk (below_drew1 HB.out); clear HO_4; clear HB; have HO_4 := n0_; have HB := n1_; clear n0_ n1_; obtain ⟨Ao48, co48, eo48⟩ := Kd.R_slice HO_4.out; (first | subst eo48 | (injection eo48 with f1_ f2_ f3_; have f4_ := f1_.symm; have f5_ := f3_.symm; clear f1_ f2_ f3_; subst f4_; subst f5_)); have p272 : 0 ≤ (x6_2 : Int) := of_decide_eq_true (by first | (with_reducible assumption) | assumption); have q272 : x6_2 < (t261.length : Int) := of_decide_eq_true (by first | (with_reducible assumption) | assumption); obtain ⟨ad272, e272, hx272_0, hx272_1, hx272_2, hx272_3⟩ := at_T107 (Kd.R_reads' HO_4.out).2.2 x6_2 p272 q272; cases e272; replace p272 := eq_true p272; replace q272 := eq_true q272; have p273 : 0 ≤ (x7_4 : Int) := of_decide_eq_true (by first | (with_reducible assumption) | assumption); have q273 : x7_4 < (t261.length : Int) := of_decide_eq_true (by first | (with_reducible assumption) | assumption); obtain ⟨ad273, e273, hx273_0, hx273_1, hx273_2, hx273_3⟩ := at_T107 (Kd.R_reads' HO_4.out).2.2 x7_4 p273 q273; obtain rfl : ad272 = ad273 := (by injection e273); replace p273 := eq_true p273; replace q273 := eq_true q273; refine start_ (n := 17) (S := fun w' => w'.cell? (ad272.add ((x6_2).toNat * 4)) = some (.int .i64 ((rd_T107 t261 x6_2).f0.f0)) ∧ w'.cell? ⟨(ad272.add ((x6_2).toNat * 4)).block, (ad272.add ((x6_2).toNat * 4)).off + 1, none⟩ = some (.int .i64 ((rd_T107 t261 x6_2).f0.f1)) ∧ w'.cell? ⟨(ad272.add ((x6_2).toNat * 4)).block, (ad272.add ((x6_2).toNat * 4)).off + 2, none⟩ = some (.int .i64 ((rd_T107 t261 x6_2).f1.f0)) ∧ w'.cell? ⟨(ad272.add ((x6_2).toNat * 4)).block, (ad272.add ((x6_2).toNat * 4)).off + 3, none⟩ = some (.int .i64 ((rd_T107 t261 x6_2).f1.f1)) ∧ w'.cell? (ad272.add ((x7_4).toNat * 4)) = some (.int .i64 ((rd_T107 t261 x7_4).f0.f0)) ∧ w'.cell? ⟨(ad272.add ((x7_4).toNat * 4)).block, (ad272.add ((x7_4).toNat * 4)).off + 1, none⟩ = some (.int .i64 ((rd_T107 t261 x7_4).f0.f1)) ∧ w'.cell? ⟨(ad272.add ((x7_4).toNat * 4)).block, (ad272.add ((x7_4).toNat * 4)).off + 2, none⟩ = some (.int .i64 ((rd_T107 t261 x7_4).f1.f0)) ∧ w'.cell? ⟨(ad272.add ((x7_4).toNat * 4)).block, (ad272.add ((x7_4).toNat * 4)).off + 3, none⟩ = some (.int .i64 ((rd_T107 t261 x7_4).f1.f1))) (ds := []) #[false, false, false, false, false, false, false, false, false, false, false, false, false, false, false, false, false] (by kernel_rfl) rfl rfl ⟨hx272_0, hx272_1, hx272_2, hx272_3, hx273_0, hx273_1, hx273_2, hx273_3⟩ (fun hHeld => ?_); refine with_tabW spec_LoopOk.tab18 spec_LoopOk.bits18 (fun HT_ HW_ => ?_)
                     generalize wr.drew = w47 at HO_4 HB hx272_0 hx272_1 hx272_2 hx272_3 hx273_0 hx273_1 hx273_2 hx273_3 hHeld ⊢
                     refine pu_ HT_.out 0 66 {} ?_; refine pu_ HT_.out 1 67 {} ?_; refine pu_ HT_.out 2 68 {} ?_; refine pu_ HT_.out 3 69 {} ?_; refine pu_ HT_.out 4 70 {} ?_; refine pu_ HT_.out 5 71 {} ?_; refine pu_ HT_.out 6 72 {} ?_; refine pu_ HT_.out 7 73 {} ?_; refine pu_ HT_.out 8 74 {} ?_; refine pu_ HT_.out 9 75 {} ?_; refine pu_ HT_.out 11 77 {} ?_; refine pu_ HT_.out 12 78 {} ?_; refine pu_ HT_.out 13 79 {} ?_; refine tk_ HT_.out HW_.out 10 76 hHeld {} ?_; refine tk_ HT_.out HW_.out 14 80 hHeld {} ?_
                     refine one_ (i := 15) (N := some 81) #[true, true, true, true, true, true, true, true, true, true, true, true, true, true, true, true, false] rfl rfl (one_of HT_.out (by kernel_rfl)) (by decide) (fun K hK => ?_); refine goes_ Tryd.func87 (by kernel_rfl) rfl #[.agg #[.int .i64 ((rd_T107 t261 x6_2).f0.f0), .int .i64 ((rd_T107 t261 x6_2).f0.f1), .int .i64 ((rd_T107 t261 x6_2).f1.f0), .int .i64 ((rd_T107 t261 x6_2).f1.f1)], .agg #[.int .i64 ((rd_T107 t261 x7_4).f0.f0), .int .i64 ((rd_T107 t261 x7_4).f0.f1), .int .i64 ((rd_T107 t261 x7_4).f1.f0), .int .i64 ((rd_T107 t261 x7_4).f1.f1)]] (by rfl) rfl rfl (by (try simp only [List.map_toArray, List.map_cons, List.map_nil]); first | done | rfl | (simp only [List.length_drop, List.length_take]; rfl)) ?_; with_reducible refine (spec_l2Meet.calls ((rd_T107 t261 x6_2).f0.f0) ((rd_T107 t261 x6_2).f0.f1) ((rd_T107 t261 x6_2).f1.f0) ((rd_T107 t261 x6_2).f1.f1) ((rd_T107 t261 x7_4).f0.f0) ((rd_T107 t261 x7_4).f0.f1) ((rd_T107 t261 x7_4).f1.f0) ((rd_T107 t261 x7_4).f1.f1) false _ A42.out).mono ?_
                     rintro e w49 ⟨rfl, hb⟩; have HS0_ := (hb.cell (World.block_lt_of_cell? _ _ (hHeld.1))).trans (hHeld.1); have HS1_ := (hb.cell (World.block_lt_of_cell? _ _ (hHeld.2.1))).trans (hHeld.2.1); have HS2_ := (hb.cell (World.block_lt_of_cell? _ _ (hHeld.2.2.1))).trans (hHeld.2.2.1); have HS3_ := (hb.cell (World.block_lt_of_cell? _ _ (hHeld.2.2.2.1))).trans (hHeld.2.2.2.1); have HS4_ := (hb.cell (World.block_lt_of_cell? _ _ (hHeld.2.2.2.2.1))).trans (hHeld.2.2.2.2.1); have HS5_ := (hb.cell (World.block_lt_of_cell? _ _ (hHeld.2.2.2.2.2.1))).trans (hHeld.2.2.2.2.2.1); have HS6_ := (hb.cell (World.block_lt_of_cell? _ _ (hHeld.2.2.2.2.2.2.1))).trans (hHeld.2.2.2.2.2.2.1); have HS7_ := (hb.cell (World.block_lt_of_cell? _ _ (hHeld.2.2.2.2.2.2.2))).trans (hHeld.2.2.2.2.2.2.2); refine ⟨_, rfl, ?_⟩; have n0_ := Aside0.mk (Kd.R_below (by (with_reducible repeat (first | apply Kd.R_alloc | apply Kd.R_drewN | apply Kd.R_drew)); exact HO_4.out) hb); have n1_ := Aside0.mk (below_step (by repeat (first | (with_reducible first | exact HB.out | apply below_alloc | apply pw_below_drewN | apply below_drew1) | exact HB.out)) hb); clear HO_4; clear HB; have HO_4 := n0_; have HB := n1_; clear n0_ n1_; (try clear hb); (try clear hb2); (try clear hk); (try clear hi); refine hK.out _ _ ⟨HS0_, HS1_, HS2_, HS3_, HS4_, HS5_, HS6_, HS7_⟩ (fun hHeld => ?_); clear hK K; refine norm_ (a' := ?_) ?_ ?_; rotate_left; ·show Act.put _ (some 81) _ = _; simp only [Act.put, Geo.sa_, Geo.sb_, Geo.sc_, i64_w, i32_w]; rfl
                     refine pu_ HT_.out 16 82 {} ?_
                     refine done_ (done_of HT_.out (by kernel_rfl)) ?_; try go_wp2
                     go_roundg k4
                     case measure => have := HK1.out; have := HK2.out; have := HJ15.out; have := HK4.out; omega
                     case rel => exact ⟨(wrap64 (x7_4 + 1)), (by first | rfl | (simp; done) | (simp [*]; done)), H', ⟨by have := HK1.out; have := HK2.out; have := HJ15.out; have := HK4.out; omega⟩, ⟨by (with_reducible repeat (first | apply Kd.R_alloc | apply Kd.R_drewN | apply Kd.R_drew)); exact HO_4.out⟩, ⟨by repeat (first | (with_reducible first | exact HB.out | apply below_alloc | apply pw_below_drewN | apply below_drew1) | exact HB.out)⟩⟩
                   ·rw [if_neg c41] at H; exact absurd H (by simp)
                  ·rw [if_neg c40] at H; exact absurd H (by simp)
                 ·rw [if_neg c39] at H; exact absurd H (by simp)
                ·rw [if_neg c38] at H; exact absurd H (by simp)
             ·rw [if_neg c34] at H; have c34b0 : decide (x7_4 < (l0.length : Int)) = false := decide_eq_false c34; clear c34; have H' := Aside0.mk H; clear H; go_wp2
              go_roundg k4
              case measure => have := HK1.out; have := HK2.out; have := HJ15.out; have := HK4.out; omega
              case rel => exact ⟨(wrap64 (x6_2 + 1)), (by first | rfl | (simp; done) | (simp [*]; done)), H', ⟨by have := HK1.out; have := HK2.out; have := HJ15.out; have := HK4.out; omega⟩, ⟨by (with_reducible repeat (first | apply Kd.R_alloc | apply Kd.R_drewN | apply Kd.R_drew)); exact HO_4.out⟩, ⟨by repeat (first | (with_reducible first | exact HB.out | apply below_alloc | apply pw_below_drewN | apply below_drew1) | exact HB.out)⟩⟩
       ·rw [if_neg c15] at H; have c15b0 : decide (x6_2 < (l0.length : Int)) = false := decide_eq_false c15; clear c15; obtain rfl := Option.some.inj H; go_wp2
        go_ret
        exact ⟨by first | rfl | (simp [errW_none, errW_some] <;> rfl) | (simp [*, errW_none, errW_some] <;> rfl), by repeat (first | (with_reducible first | exact HB.out | apply below_alloc | apply pw_below_drewN | apply below_drew1) | exact HB.out)⟩
 ·replace c3 := Bool.eq_false_iff.mpr c3; subst c3; have H1 : (some false) = some r := by rw [if_neg (show ¬ (false = true) by decide)] at H; exact H
  clear H; have H := H1; clear H1; obtain rfl := Option.some.inj H; go_enter Tryd.func56, Tryd.ntmps56
  go_wp2_with (first | ((with_reducible refine gate_callee (f := 50) rfl ?_); refine goesL_ (some 11) rfl rfl Tryd.func50 (by kernel_rfl) rfl #[.int .i64 (l0.length : Int), .int .i64 3, .int .i64 8] rfl (by (try simp only [List.map_toArray, List.map_cons, List.map_nil]); first | done | rfl | (simp only [List.length_drop, List.length_take]; rfl)) ?_; (with_reducible refine (spec_l6In.calls (l0.length : Int) 3 8 false _ A2.out).mono ?_); rintro e w' ⟨rfl, ⟨nd, rfl⟩⟩; refine ⟨_, rfl, ?_⟩))
  go_ret
  exact ⟨by first | rfl | (simp [errW_none, errW_some] <;> rfl) | (simp [*, errW_none, errW_some] <;> rfl), by repeat (first | (with_reducible first | exact HB.out | apply below_alloc | apply pw_below_drewN | apply below_drew1) | exact HB.out)⟩

end Go.Proofs.YtddbahlofgkoaaaDoor.PA
