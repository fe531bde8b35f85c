/- What the row of FnFracOf rests on, part 2: words, plain facts, functions and their contracts. No condition. -/
import Derived.Test.YtddbahlofgkoaaaDoorMFnFracOfb
import Derived.Test.YtddbahlofgkoaaaDoorMFnFracOfa
import Derived.Shelf.Strings.Builder1
import Derived.Shelf.Strings.Builder2
import Derived.Shelf.Strings.OnBuilder
import Derived.Shelf.Strings.BuilderF
import Derived.Shelf.Strings.BuilderK
import Derived.Shelf.Utf8.RuneCount
import Derived.Shelf.Strconv.Itoa0
import Derived.Shelf.Strconv.Itoa1
import Derived.Shelf.LaysM
import Derived.Shelf.Strconv.Itoa2
import Derived.Shelf.Strconv.Itoa3
import Derived.Shelf.Strconv.Itoa4
import Derived.Shelf.Strings.Search1
import Derived.Shelf.Strings.Search2
import Derived.Shelf.Strings.Search3
import Derived.Shelf.Strings.Count
import Derived.Shelf.Strings.Shaped
import Derived.Shelf.Strings.Split
import Derived.Shelf.Strings.SplitShaped
import Derived.Shelf.Unicode.Decode
import Derived.Shelf.Strings.RuneCount
import Derived.Shelf.Strings.Explode
import Derived.Shelf.Unicode.DecodeSlow
import Derived.Shelf.Unicode.DecodeAny
import Derived.Test.YtddbahlofgkoaaaDoorProg
import Derived.Tactics
import Derived.KernelRfl
import Derived.Below
import Derived.Deep.Draws
import Derived.Deep.AppendLies
import Derived.Maps.AppendAt
import Derived.OwnWalk
import Derived.Laws.BytesArg
import Derived.Laws.MakeOwn
import Derived.Laws.OwnMore
import Derived.Deep.OwnRows
import Derived.Lib.ConvBytes
import Derived.Laws.Slices
import Derived.WalkKit
import Derived.RowKit3
import Derived.Deep.LoopGhost
import Derived.Deep.QuietTactic
import Derived.BigQuiet
import Derived.WideLaws
import Derived.Deep.DeepCutAuto
import Derived.Deep.CutBlock
import Derived.Deep.RegionHeld3
import Derived.Laws.Rows
import Derived.Lib.AppendStr
import Derived.ArgAppend
import Derived.Laws.IdiomCopy
import Derived.OrdersHeld
import Derived.Laws.BitsLemmas
import Derived.RowKit
import Derived.Laws.EntriesVeiled
import Derived.LaidEql
import Derived.Stop.Asserts
import Derived.RangeFuncNested
import Derived.RangeFuncBound
import Derived.RangeFuncCalls
import Derived.RangeFuncLeaves
import Derived.LaidEqlPtr
import Derived.Shelf.Abstract
import Derived.Shelf.RegionOpen
import Derived.OwnWalkIn
import Derived.TacticsInMore
import Derived.LoopNIn
import Derived.LoopIn
import Derived.ProofKit
import Derived.OpenShut
import Derived.ChangeOld
import Derived.Deep.Slices
import Derived.Handed
import Derived.HandedShaped
namespace Go.Proofs
open Go.Shelf
def Tryd.lays169_ren : Go.Shelf.Ren := ⟨fun | 169 => 48 | n => n, fun | 70 => 68 | 9 => 9 | 0 => 0 | 72 => 70 | 37 => 41 | 127 => 119 | 3 => 3 | 5 => 5 | n => n, fun | n => n⟩
theorem Tryd.lays169 : Go.Proofs.Lays.n169 Tryd.prog Tryd.lays169_ren := {
  mixed := by kernel_rfl
  f169 := Tryd.func48.trans (congrArg some (by kernel_rfl))
  t0 := Tryd.underlying0
  a0 := Tryd.isAgg0
  z0 := Tryd.sizeOf0
  v0 := Tryd.zeroValue0
  t3 := Tryd.underlying3
  a3 := Tryd.isAgg3
  z3 := Tryd.sizeOf3
  v3 := Tryd.zeroValue3
  t9 := Tryd.underlying9
  a9 := Tryd.isAgg9
  z9 := Tryd.sizeOf9
  v9 := Tryd.zeroValue9
  t37 := Tryd.underlying41
  a37 := Tryd.isAgg41
  z37 := Tryd.sizeOf41
  v37 := Tryd.zeroValue41
  t70 := Tryd.underlying68
  a70 := Tryd.isAgg68
  z70 := Tryd.sizeOf68
  v70 := Tryd.zeroValue68
  t72 := Tryd.underlying70
  a72 := Tryd.isAgg70
  z72 := Tryd.sizeOf70
  v72 := Tryd.zeroValue70
  t127 := Tryd.underlying119
  a127 := Tryd.isAgg119
  z127 := Tryd.sizeOf119
  v127 := Tryd.zeroValue119 }
theorem Tryd.Builder_Extra_169 : Builder.Extra Tryd.prog Tryd.lays169_ren := {
  sizeBuilder := by kernel_rfl
  liesBuilder := by kernel_rfl
  t5 := Tryd.underlying5
  a5 := Tryd.isAgg5
  z5 := Tryd.sizeOf5
  v5 := Tryd.zeroValue5
  infoByte := by kernel_rfl
  cellsByte := by kernel_rfl
  sizeByte := by kernel_rfl
  neB5 := by decide }
open Go.RowKit in
theorem Tryd.Builder_String_any (B b : Nat) (l : List UInt8) (w : World) (h : Lib.IsBuilder 70 5 B b (Lib.byteCells l) w) (hBw : B ≤ w.heap.size) :
    Calls Tryd.prog 48 #[.pointer (some ⟨b, 0, none⟩)] w fun e w' => e = .returned (.string ⟨l.toArray⟩) ∧ Below B w w' := Any.Builder_String_any Tryd.lays169 Tryd.Builder_Extra_169 B b l w h hBw
def Tryd.lays156_ren : Go.Shelf.Ren := ⟨fun | 156 => 79 | 165 => 100 | 166 => 45 | 169 => 48 | 240 => 77 | 241 => 111 | 276 => 98 | 277 => 117 | n => n, fun | 31 => 94 | 9 => 9 | 3 => 3 | 4 => 4 | 0 => 0 | 20 => 20 | 72 => 70 | 76 => 79 | 70 => 68 | 37 => 41 | 75 => 78 | 127 => 119 | 164 => 141 | 5 => 5 | 80 => 82 | n => n, fun | n => n⟩
theorem Tryd.lays156 : Go.Proofs.Lays.n156 Tryd.prog Tryd.lays156_ren := {
  mixed := by kernel_rfl
  f156 := Tryd.func79.trans (congrArg some (by kernel_rfl))
  f165 := Tryd.func100.trans (congrArg some (by kernel_rfl))
  f166 := Tryd.func45.trans (congrArg some (by kernel_rfl))
  f169 := Tryd.func48.trans (congrArg some (by kernel_rfl))
  f240 := Tryd.func77.trans (congrArg some (by kernel_rfl))
  f241 := Tryd.func111.trans (congrArg some (by kernel_rfl))
  f276 := Tryd.func98.trans (congrArg some (by kernel_rfl))
  f277 := Tryd.func117.trans (congrArg some (by kernel_rfl))
  t0 := Tryd.underlying0
  a0 := Tryd.isAgg0
  z0 := Tryd.sizeOf0
  v0 := Tryd.zeroValue0
  t3 := Tryd.underlying3
  a3 := Tryd.isAgg3
  z3 := Tryd.sizeOf3
  v3 := Tryd.zeroValue3
  t4 := Tryd.underlying4
  a4 := Tryd.isAgg4
  z4 := Tryd.sizeOf4
  v4 := Tryd.zeroValue4
  t9 := Tryd.underlying9
  a9 := Tryd.isAgg9
  z9 := Tryd.sizeOf9
  v9 := Tryd.zeroValue9
  t20 := Tryd.underlying20
  a20 := Tryd.isAgg20
  z20 := Tryd.sizeOf20
  v20 := Tryd.zeroValue20
  t31 := Tryd.underlying94
  a31 := Tryd.isAgg94
  z31 := Tryd.sizeOf94
  v31 := Tryd.zeroValue94
  t37 := Tryd.underlying41
  a37 := Tryd.isAgg41
  z37 := Tryd.sizeOf41
  v37 := Tryd.zeroValue41
  t70 := Tryd.underlying68
  a70 := Tryd.isAgg68
  z70 := Tryd.sizeOf68
  v70 := Tryd.zeroValue68
  t72 := Tryd.underlying70
  a72 := Tryd.isAgg70
  z72 := Tryd.sizeOf70
  v72 := Tryd.zeroValue70
  t75 := Tryd.underlying78
  a75 := Tryd.isAgg78
  z75 := Tryd.sizeOf78
  v75 := Tryd.zeroValue78
  t76 := Tryd.underlying79
  a76 := Tryd.isAgg79
  z76 := Tryd.sizeOf79
  v76 := Tryd.zeroValue79
  t127 := Tryd.underlying119
  a127 := Tryd.isAgg119
  z127 := Tryd.sizeOf119
  v127 := Tryd.zeroValue119
  t164 := Tryd.underlying141
  a164 := Tryd.isAgg141
  z164 := Tryd.sizeOf141
  v164 := Tryd.zeroValue141 }
theorem Tryd.Builder_Extra_156 : Builder.Extra Tryd.prog Tryd.lays156_ren := {
  sizeBuilder := by kernel_rfl
  liesBuilder := by kernel_rfl
  t5 := Tryd.underlying5
  a5 := Tryd.isAgg5
  z5 := Tryd.sizeOf5
  v5 := Tryd.zeroValue5
  infoByte := by kernel_rfl
  cellsByte := by kernel_rfl
  sizeByte := by kernel_rfl
  neB5 := by decide }
open Go.RowKit in
theorem Tryd.strings_Join_none (a : Option Addr) (c : Nat) (sep : ByteArray) (w : World) :
    Calls Tryd.prog 79 #[.slice a 0 c, .string sep] w fun e w' => e = .returned (.string ⟨#[]⟩) ∧ w' = w := Any.strings_Join_none Tryd.lays156 Tryd.Builder_Extra_156 a c sep w
open Go.RowKit in
theorem Tryd.strings_Join (bk o c : Nat) (xs : List ByteArray) (sep : ByteArray) (w : World) (hcells : ∀ (j : Nat) x, xs[j]? = some x → w.cell? ⟨bk, o + j, none⟩ = some (.string x)) (hbk : bk < w.heap.size) (hN : xs.length ≤ 140737488355328) (hcap : xs.length ≤ c) (hlen : (Lib.join (xs.map (·.data.toList)) sep.data.toList).length ≤ 140737488355328) :
    Calls Tryd.prog 79 #[.slice (some ⟨bk, o, none⟩) xs.length c, .string sep] w fun e w' => e = .returned (.string ⟨(Lib.join (xs.map (·.data.toList)) sep.data.toList).toArray⟩) ∧ Below w.heap.size w w' := Any.strings_Join Tryd.lays156 Tryd.Builder_Extra_156 bk o c xs sep w hcells hbk hN hcap hlen
def Tryd.lays171_ren : Go.Shelf.Ren := ⟨fun | 171 => 99 | 243 => 110 | 246 => 116 | 283 => 123 | 284 => 124 | 285 => 125 | 286 => 126 | 129 => 130 | 317 => 129 | 318 => 131 | 319 => 132 | 320 => 133 | 337 => 134 | 338 => 135 | n => n, fun | 3 => 3 | 9 => 9 | 2 => 2 | 4 => 4 | 171 => 165 | 0 => 0 | 53 => 166 | 37 => 41 | 5 => 5 | 173 => 169 | 212 => 179 | 51 => 175 | 20 => 20 | 213 => 180 | 46 => 164 | 232 => 184 | 233 => 185 | n => n, fun | 17 => 4 | 18 => 5 | 19 => 6 | n => n⟩
theorem Tryd.lays171 : Go.Proofs.Lays.n171 Tryd.prog Tryd.lays171_ren := {
  mixed := by kernel_rfl
  f129 := Tryd.func130.trans (congrArg some (by kernel_rfl))
  f171 := Tryd.func99.trans (congrArg some (by kernel_rfl))
  f243 := Tryd.func110.trans (congrArg some (by kernel_rfl))
  f246 := Tryd.func116.trans (congrArg some (by kernel_rfl))
  f283 := Tryd.func123.trans (congrArg some (by kernel_rfl))
  f284 := Tryd.func124.trans (congrArg some (by kernel_rfl))
  f285 := Tryd.func125.trans (congrArg some (by kernel_rfl))
  f286 := Tryd.func126.trans (congrArg some (by kernel_rfl))
  f317 := Tryd.func129.trans (congrArg some (by kernel_rfl))
  f318 := Tryd.func131.trans (congrArg some (by kernel_rfl))
  f319 := Tryd.func132.trans (congrArg some (by kernel_rfl))
  f320 := Tryd.func133.trans (congrArg some (by kernel_rfl))
  f337 := Tryd.func134.trans (congrArg some (by kernel_rfl))
  f338 := Tryd.func135.trans (congrArg some (by kernel_rfl))
  t0 := Tryd.underlying0
  a0 := Tryd.isAgg0
  z0 := Tryd.sizeOf0
  v0 := Tryd.zeroValue0
  t2 := Tryd.underlying2
  a2 := Tryd.isAgg2
  z2 := Tryd.sizeOf2
  v2 := Tryd.zeroValue2
  t3 := Tryd.underlying3
  a3 := Tryd.isAgg3
  z3 := Tryd.sizeOf3
  v3 := Tryd.zeroValue3
  t4 := Tryd.underlying4
  a4 := Tryd.isAgg4
  z4 := Tryd.sizeOf4
  v4 := Tryd.zeroValue4
  t5 := Tryd.underlying5
  a5 := Tryd.isAgg5
  z5 := Tryd.sizeOf5
  v5 := Tryd.zeroValue5
  t9 := Tryd.underlying9
  a9 := Tryd.isAgg9
  z9 := Tryd.sizeOf9
  v9 := Tryd.zeroValue9
  t20 := Tryd.underlying20
  a20 := Tryd.isAgg20
  z20 := Tryd.sizeOf20
  v20 := Tryd.zeroValue20
  t37 := Tryd.underlying41
  a37 := Tryd.isAgg41
  z37 := Tryd.sizeOf41
  v37 := Tryd.zeroValue41
  t46 := Tryd.underlying164
  a46 := Tryd.isAgg164
  z46 := Tryd.sizeOf164
  v46 := Tryd.zeroValue164
  t51 := Tryd.underlying175
  a51 := Tryd.isAgg175
  z51 := Tryd.sizeOf175
  v51 := Tryd.zeroValue175
  t53 := Tryd.underlying166
  a53 := Tryd.isAgg166
  z53 := Tryd.sizeOf166
  v53 := Tryd.zeroValue166
  t171 := Tryd.underlying165
  a171 := Tryd.isAgg165
  z171 := Tryd.sizeOf165
  v171 := Tryd.zeroValue165
  t173 := Tryd.underlying169
  a173 := Tryd.isAgg169
  z173 := Tryd.sizeOf169
  v173 := Tryd.zeroValue169
  t212 := Tryd.underlying179
  a212 := Tryd.isAgg179
  z212 := Tryd.sizeOf179
  v212 := Tryd.zeroValue179
  t213 := Tryd.underlying180
  a213 := Tryd.isAgg180
  z213 := Tryd.sizeOf180
  t232 := Tryd.underlying184
  a232 := Tryd.isAgg184
  z232 := Tryd.sizeOf184
  v232 := Tryd.zeroValue184
  t233 := Tryd.underlying185
  a233 := Tryd.isAgg185
  z233 := Tryd.sizeOf185
  v233 := Tryd.zeroValue185
  g17 := by kernel_rfl
  g18 := by kernel_rfl
  g19 := by kernel_rfl }
open Go.RowKit Go.Sort Go.Lib in
theorem Tryd.strconv_Itoa_small (i : Nat) (hi : i < 100) (w : World) :
    Calls Tryd.prog 99 #[.int .i64 i] w fun e w' => e = .returned (.string ⟨(Lib.decDigits i).toArray⟩) ∧ w' = w := Any.strconv_Itoa_small Tryd.lays171 i hi w
def Tryd.lays146_ren : Go.Shelf.Ren := ⟨fun | 146 => 57 | 221 => 88 | 268 => 104 | 138 => 105 | 143 => 106 | 195 => 112 | 197 => 113 | 218 => 114 | 219 => 115 | 260 => 118 | 217 => 119 | 225 => 120 | 224 => 121 | 267 => 122 | 266 => 127 | 314 => 128 | n => n, fun | 9 => 9 | 31 => 94 | 3 => 3 | 4 => 4 | 0 => 0 | 105 => 159 | 21 => 21 | 5 => 5 | 46 => 164 | 119 => 171 | 139 => 174 | 138 => 173 | 146 => 176 | 51 => 175 | n => n, fun | 1 => 1 | 3 => 2 | 4 => 3 | n => n⟩
theorem Tryd.lays146 : Go.Proofs.Lays.n146 Tryd.prog Tryd.lays146_ren := {
  mixed := by kernel_rfl
  f138 := Tryd.func105.trans (congrArg some (by kernel_rfl))
  f143 := Tryd.func106.trans (congrArg some (by kernel_rfl))
  f146 := Tryd.func57.trans (congrArg some (by kernel_rfl))
  f195 := Tryd.func112.trans (congrArg some (by kernel_rfl))
  f197 := Tryd.func113.trans (congrArg some (by kernel_rfl))
  f217 := Tryd.func119.trans (congrArg some (by kernel_rfl))
  f218 := Tryd.func114.trans (congrArg some (by kernel_rfl))
  f219 := Tryd.func115.trans (congrArg some (by kernel_rfl))
  f221 := Tryd.func88.trans (congrArg some (by kernel_rfl))
  f224 := Tryd.func121.trans (congrArg some (by kernel_rfl))
  f225 := Tryd.func120.trans (congrArg some (by kernel_rfl))
  f260 := Tryd.func118.trans (congrArg some (by kernel_rfl))
  f266 := Tryd.func127.trans (congrArg some (by kernel_rfl))
  f267 := Tryd.func122.trans (congrArg some (by kernel_rfl))
  f268 := Tryd.func104.trans (congrArg some (by kernel_rfl))
  f314 := Tryd.func128.trans (congrArg some (by kernel_rfl))
  t0 := Tryd.underlying0
  a0 := Tryd.isAgg0
  z0 := Tryd.sizeOf0
  v0 := Tryd.zeroValue0
  t3 := Tryd.underlying3
  a3 := Tryd.isAgg3
  z3 := Tryd.sizeOf3
  v3 := Tryd.zeroValue3
  t4 := Tryd.underlying4
  a4 := Tryd.isAgg4
  z4 := Tryd.sizeOf4
  v4 := Tryd.zeroValue4
  t5 := Tryd.underlying5
  a5 := Tryd.isAgg5
  z5 := Tryd.sizeOf5
  v5 := Tryd.zeroValue5
  t9 := Tryd.underlying9
  a9 := Tryd.isAgg9
  z9 := Tryd.sizeOf9
  v9 := Tryd.zeroValue9
  t21 := Tryd.underlying21
  a21 := Tryd.isAgg21
  z21 := Tryd.sizeOf21
  v21 := Tryd.zeroValue21
  t31 := Tryd.underlying94
  a31 := Tryd.isAgg94
  z31 := Tryd.sizeOf94
  v31 := Tryd.zeroValue94
  t46 := Tryd.underlying164
  a46 := Tryd.isAgg164
  z46 := Tryd.sizeOf164
  v46 := Tryd.zeroValue164
  t51 := Tryd.underlying175
  a51 := Tryd.isAgg175
  z51 := Tryd.sizeOf175
  v51 := Tryd.zeroValue175
  t105 := Tryd.underlying159
  a105 := Tryd.isAgg159
  z105 := Tryd.sizeOf159
  v105 := Tryd.zeroValue159
  t119 := Tryd.underlying171
  a119 := Tryd.isAgg171
  z119 := Tryd.sizeOf171
  t138 := Tryd.underlying173
  a138 := Tryd.isAgg173
  z138 := Tryd.sizeOf173
  v138 := Tryd.zeroValue173
  t139 := Tryd.underlying174
  a139 := Tryd.isAgg174
  z139 := Tryd.sizeOf174
  v139 := Tryd.zeroValue174
  t146 := Tryd.underlying176
  a146 := Tryd.isAgg176
  z146 := Tryd.sizeOf176
  v146 := Tryd.zeroValue176
  g1 := by kernel_rfl
  g3 := by kernel_rfl
  g4 := by kernel_rfl }
open Go.RowKit Go.Lib in
theorem Tryd.strings_Split (s sep : ByteArray) (m : Int) (w : World) (hs : s.size < 4294967281) (hm : w.cell? ⟨1, 0, none⟩ = some (.int .i64 m)) (h1 : 1 ≤ sep.size) :
    Calls Tryd.prog 57 #[.string s, .string sep] w fun e w' =>
      e = .returned (.slice (some ⟨w.heap.size, 0, none⟩) (Lib.countB s sep + 1) (Lib.countB s sep + 1)) ∧ w' = w.alloc (.cells ((Lib.splitB sep 0 (Lib.countB s sep) s).map Value.string).toArray 9) := Any.strings_Split Tryd.lays146 (by kernel_rfl) s sep m w hs hm h1
def Tryd.laysM146_ren : Go.Shelf.Ren := ⟨fun | 146 => 57 | 221 => 88 | 268 => 104 | 138 => 105 | 143 => 106 | 195 => 112 | 197 => 113 | 218 => 114 | 219 => 115 | 260 => 118 | 217 => 119 | 225 => 120 | 224 => 121 | 267 => 122 | 266 => 127 | 314 => 128 | n => n, fun | 9 => 9 | 31 => 94 | 3 => 3 | 4 => 4 | 0 => 0 | 105 => 159 | 21 => 21 | 5 => 5 | 46 => 164 | 119 => 171 | 139 => 174 | 138 => 173 | 146 => 176 | 51 => 175 | n => n, fun | 1 => 1 | 3 => 2 | 4 => 3 | n => n⟩
theorem Tryd.laysM146 : Go.Proofs.LaysM.n146 Tryd.prog Tryd.laysM146_ren := {
  mixed := by kernel_rfl
  f138 := Tryd.func105.trans (congrArg some (by kernel_rfl))
  f143 := Tryd.func106.trans (congrArg some (by kernel_rfl))
  f146 := Tryd.func57.trans (congrArg some (by kernel_rfl))
  f195 := Tryd.func112.trans (congrArg some (by kernel_rfl))
  f197 := Tryd.func113.trans (congrArg some (by kernel_rfl))
  f217 := Tryd.func119.trans (congrArg some (by kernel_rfl))
  f218 := Tryd.func114.trans (congrArg some (by kernel_rfl))
  f219 := Tryd.func115.trans (congrArg some (by kernel_rfl))
  f221 := Tryd.func88.trans (congrArg some (by kernel_rfl))
  f224 := Tryd.func121.trans (congrArg some (by kernel_rfl))
  f225 := Tryd.func120.trans (congrArg some (by kernel_rfl))
  f260 := Tryd.func118.trans (congrArg some (by kernel_rfl))
  f266 := Tryd.func127.trans (congrArg some (by kernel_rfl))
  f267 := Tryd.func122.trans (congrArg some (by kernel_rfl))
  f268 := Tryd.func104.trans (congrArg some (by kernel_rfl))
  f314 := Tryd.func128.trans (congrArg some (by kernel_rfl))
  t0 := Tryd.underlying0
  a0 := Tryd.isAgg0
  z0 := Tryd.sizeOf0
  v0 := Tryd.zeroValue0
  t3 := Tryd.underlying3
  a3 := Tryd.isAgg3
  z3 := Tryd.sizeOf3
  v3 := Tryd.zeroValue3
  t4 := Tryd.underlying4
  a4 := Tryd.isAgg4
  z4 := Tryd.sizeOf4
  v4 := Tryd.zeroValue4
  t5 := Tryd.underlying5
  a5 := Tryd.isAgg5
  z5 := Tryd.sizeOf5
  v5 := Tryd.zeroValue5
  t9 := Tryd.underlying9
  a9 := Tryd.isAgg9
  z9 := Tryd.sizeOf9
  v9 := Tryd.zeroValue9
  t21 := Tryd.underlying21
  a21 := Tryd.isAgg21
  z21 := Tryd.sizeOf21
  v21 := Tryd.zeroValue21
  t31 := Tryd.underlying94
  a31 := Tryd.isAgg94
  z31 := Tryd.sizeOf94
  v31 := Tryd.zeroValue94
  t46 := Tryd.underlying164
  a46 := Tryd.isAgg164
  z46 := Tryd.sizeOf164
  v46 := Tryd.zeroValue164
  t51 := Tryd.underlying175
  a51 := Tryd.isAgg175
  z51 := Tryd.sizeOf175
  v51 := Tryd.zeroValue175
  t105 := Tryd.underlying159
  a105 := Tryd.isAgg159
  z105 := Tryd.sizeOf159
  v105 := Tryd.zeroValue159
  t119 := Tryd.underlying171
  a119 := Tryd.isAgg171
  z119 := Tryd.sizeOf171
  t138 := Tryd.underlying173
  a138 := Tryd.isAgg173
  z138 := Tryd.sizeOf173
  v138 := Tryd.zeroValue173
  t139 := Tryd.underlying174
  a139 := Tryd.isAgg174
  z139 := Tryd.sizeOf174
  v139 := Tryd.zeroValue174
  t146 := Tryd.underlying176
  a146 := Tryd.isAgg176
  z146 := Tryd.sizeOf176
  v146 := Tryd.zeroValue176
  g1 := by kernel_rfl
  g3 := by kernel_rfl
  g4 := by kernel_rfl
  i0 := by kernel_rfl
  i3 := by kernel_rfl
  i4 := by kernel_rfl
  i5 := by kernel_rfl
  i9 := by kernel_rfl
  i21 := by kernel_rfl
  i31 := by kernel_rfl
  i46 := by kernel_rfl
  i51 := by kernel_rfl
  i105 := by kernel_rfl
  i138 := by kernel_rfl
  i139 := by kernel_rfl
  i146 := by kernel_rfl
  m1 := by kernel_rfl
  s1_3 := fun w h => Go.Proofs.cell_of_shapedOpen_int (zero := #[.int .i64 0]) (t := 3) h (of_decide_eq_true (by kernel_rfl)) (by kernel_rfl) rfl (by kernel_rfl) (by kernel_rfl) Tryd.underlying3
  m3 := by kernel_rfl
  m4 := by kernel_rfl }
open Go.RowKit Go.Lib in
theorem Tryd.strings_Split_shaped (s sep : ByteArray) (w : World) (h : w.ShapedOpen Tryd.prog) (hs : s.size < 4294967281) (h1 : 1 ≤ sep.size) :
    Calls Tryd.prog 57 #[.string s, .string sep] w fun e w' =>
      e = .returned (.slice (some ⟨w.heap.size, 0, none⟩) (Lib.countB s sep + 1) (Lib.countB s sep + 1)) ∧ w' = w.alloc (.cells ((Lib.splitB sep 0 (Lib.countB s sep) s).map Value.string).toArray 9) := Any.strings_Split_shaped Tryd.laysM146 s sep w h hs h1
def Tryd.lays166_ren : Go.Shelf.Ren := ⟨fun | 156 => 79 | 165 => 100 | 166 => 45 | 169 => 48 | 240 => 77 | 241 => 111 | 276 => 98 | 277 => 117 | n => n, fun | 31 => 94 | 9 => 9 | 3 => 3 | 4 => 4 | 0 => 0 | 20 => 20 | 72 => 70 | 76 => 79 | 70 => 68 | 37 => 41 | 75 => 78 | 127 => 119 | 164 => 141 | 5 => 5 | 80 => 82 | n => n, fun | n => n⟩
theorem Tryd.lays166 : Go.Proofs.Lays.n166 Tryd.prog Tryd.lays166_ren := {
  mixed := by kernel_rfl
  f166 := Tryd.lays156.f166.trans (congrArg some (by kernel_rfl))
  f240 := Tryd.lays156.f240.trans (congrArg some (by kernel_rfl))
  f276 := Tryd.lays156.f276.trans (congrArg some (by kernel_rfl))
  t0 := Tryd.lays156.t0
  a0 := Tryd.lays156.a0
  z0 := Tryd.lays156.z0
  v0 := Tryd.lays156.v0
  t3 := Tryd.lays156.t3
  a3 := Tryd.lays156.a3
  z3 := Tryd.lays156.z3
  v3 := Tryd.lays156.v3
  t4 := Tryd.lays156.t4
  a4 := Tryd.lays156.a4
  z4 := Tryd.lays156.z4
  v4 := Tryd.lays156.v4
  t9 := Tryd.lays156.t9
  a9 := Tryd.lays156.a9
  z9 := Tryd.lays156.z9
  v9 := Tryd.lays156.v9
  t20 := Tryd.lays156.t20
  a20 := Tryd.lays156.a20
  z20 := Tryd.lays156.z20
  v20 := Tryd.lays156.v20
  t37 := Tryd.lays156.t37
  a37 := Tryd.lays156.a37
  z37 := Tryd.lays156.z37
  v37 := Tryd.lays156.v37
  t70 := Tryd.lays156.t70
  a70 := Tryd.lays156.a70
  z70 := Tryd.lays156.z70
  v70 := Tryd.lays156.v70
  t72 := Tryd.lays156.t72
  a72 := Tryd.lays156.a72
  z72 := Tryd.lays156.z72
  v72 := Tryd.lays156.v72
  t75 := Tryd.lays156.t75
  a75 := Tryd.lays156.a75
  z75 := Tryd.lays156.z75
  v75 := Tryd.lays156.v75
  t164 := Tryd.lays156.t164
  a164 := Tryd.lays156.a164
  z164 := Tryd.lays156.z164
  v164 := Tryd.lays156.v164 }
theorem Tryd.Builder_Extra_166 : Builder.Extra Tryd.prog Tryd.lays166_ren := {
  sizeBuilder := by kernel_rfl
  liesBuilder := by kernel_rfl
  t5 := Tryd.underlying5
  a5 := Tryd.isAgg5
  z5 := Tryd.sizeOf5
  v5 := Tryd.zeroValue5
  infoByte := by kernel_rfl
  cellsByte := by kernel_rfl
  sizeByte := by kernel_rfl
  neB5 := by decide }
def Tryd.lays167_ren : Go.Shelf.Ren := ⟨fun | 167 => 47 | 156 => 79 | 165 => 100 | 166 => 45 | 169 => 48 | 240 => 77 | 241 => 111 | 276 => 98 | 277 => 117 | n => n, fun | 31 => 94 | 9 => 9 | 3 => 3 | 4 => 4 | 0 => 0 | 20 => 20 | 72 => 70 | 76 => 79 | 70 => 68 | 37 => 41 | 75 => 78 | 127 => 119 | 164 => 141 | 5 => 5 | 80 => 82 | n => n, fun | n => n⟩
theorem Tryd.lays167 : Go.Proofs.Lays.n167 Tryd.prog Tryd.lays167_ren := {
  mixed := by kernel_rfl
  f167 := Tryd.func47.trans (congrArg some (by kernel_rfl))
  f240 := Tryd.lays156.f240.trans (congrArg some (by kernel_rfl))
  f276 := Tryd.lays156.f276.trans (congrArg some (by kernel_rfl))
  t0 := Tryd.lays156.t0
  a0 := Tryd.lays156.a0
  z0 := Tryd.lays156.z0
  v0 := Tryd.lays156.v0
  t4 := Tryd.lays156.t4
  a4 := Tryd.lays156.a4
  z4 := Tryd.lays156.z4
  v4 := Tryd.lays156.v4
  t5 := Tryd.underlying5
  a5 := Tryd.isAgg5
  z5 := Tryd.sizeOf5
  v5 := Tryd.zeroValue5
  t9 := Tryd.lays156.t9
  a9 := Tryd.lays156.a9
  z9 := Tryd.lays156.z9
  v9 := Tryd.lays156.v9
  t20 := Tryd.lays156.t20
  a20 := Tryd.lays156.a20
  z20 := Tryd.lays156.z20
  v20 := Tryd.lays156.v20
  t37 := Tryd.lays156.t37
  a37 := Tryd.lays156.a37
  z37 := Tryd.lays156.z37
  v37 := Tryd.lays156.v37
  t70 := Tryd.lays156.t70
  a70 := Tryd.lays156.a70
  z70 := Tryd.lays156.z70
  v70 := Tryd.lays156.v70
  t72 := Tryd.lays156.t72
  a72 := Tryd.lays156.a72
  z72 := Tryd.lays156.z72
  v72 := Tryd.lays156.v72
  t75 := Tryd.lays156.t75
  a75 := Tryd.lays156.a75
  z75 := Tryd.lays156.z75
  v75 := Tryd.lays156.v75
  t164 := Tryd.lays156.t164
  a164 := Tryd.lays156.a164
  z164 := Tryd.lays156.z164
  v164 := Tryd.lays156.v164 }
theorem Tryd.Builder_Extra_167 : Builder.Extra Tryd.prog Tryd.lays167_ren := {
  sizeBuilder := by kernel_rfl
  liesBuilder := by kernel_rfl
  t5 := Tryd.underlying5
  a5 := Tryd.isAgg5
  z5 := Tryd.sizeOf5
  v5 := Tryd.zeroValue5
  infoByte := by kernel_rfl
  cellsByte := by kernel_rfl
  sizeByte := by kernel_rfl
  neB5 := by decide }
open Go.RowKit in
theorem Tryd.wByte (B b : Nat) (bs : List Value) (c : Int) (w : World) (h : Lib.IsBuilder 70 5 B b bs w) (hlen : bs.length + 1 ≤ 140737488355328) (hBw : B ≤ w.heap.size) :
    Calls Tryd.prog 47 #[.pointer (some ⟨b, 0, none⟩), .int .u8 c] w fun e w' => e = .returned .nilIface ∧ (Lib.BuilderAt 70 5 B b (.pointer (some ⟨b, 0, none⟩)) (bs ++ [.int .u8 c]) w' ∧ Below B w w') := Any.Builder_WriteByte Tryd.lays167 Tryd.Builder_Extra_167 B b bs c w h hlen hBw
open Go.RowKit in
theorem Tryd.wString (B b : Nat) (bs : List Value) (s : ByteArray) (w : World) (h : Lib.IsBuilder 70 5 B b bs w) (hlen : bs.length + s.size ≤ 140737488355328) (hBw : B ≤ w.heap.size) :
    Calls Tryd.prog 45 #[.pointer (some ⟨b, 0, none⟩), .string s] w fun e w' => e = .returned (.tuple #[.int .i64 s.size, .nilIface]) ∧ (Lib.BuilderAt 70 5 B b (.pointer (some ⟨b, 0, none⟩)) (bs ++ Lib.strCells s) w' ∧ Below B w w') := Any.Builder_WriteString Tryd.lays166 Tryd.Builder_Extra_166 B b bs s w h hlen hBw
end Go.Proofs
namespace Go.Proofs.YtddbahlofgkoaaaDoor.PA
open Go.RowKit Go.Proofs.YtddbahlofgkoaaaDoorW.PrintWords Go.Proofs.YtddbahlofgkoaaaDoorW.PrintLast Go.Proofs.YtddbahlofgkoaaaDoorW.PrintMore
structure Pu (P : Program) (md : Region.Mode) (ops : Array Oper) (Q : Exit → Act → World → Prop) (T : Bool × List (List Nat × List Nat)) (i : Nat) (oi : Oper) (N : Option Tmp) (v : Value) (l l' : Array Bool) (a a' : Act) : Prop where
  hi : ops[i]? = some oi := by exact rfl
  hN : oi.dst = N := by exact rfl
  hl : l.setIfInBounds i true = l' := by simp only [Geo.sa_, Geo.sb_, Geo.sc_]; rfl
  hc : anyT T l.toList l'.toList i = true := by kernel_rfl
  hQ : ∀ c a w, Q (.panic c) (a.put oi.dst v) w → Q (.panic c) a w := by exact fun _ _ _ h => h
  hw : Region.wanted oi (yielded ops a.tmps) = true := by kernel_rfl
  hy : ∀ w', (execOp a.eval oi).run P w' = .ok (.value v) w' := by intro w'; go_simp; with_reducible rfl
  ha : a.put N v = a' := by simp only [Act.put, Geo.sa_, Geo.sb_, Geo.sc_, i64_w, i32_w]; rfl
structure Pv (md : Region.Mode) (ops : Array Oper) (Q : Exit → Act → World → Prop) (T : Bool × List (List Nat × List Nat)) (i : Nat) (oi : Oper) (N : Option Tmp) (l l' : Array Bool) (a a' : Act) : Prop where
  hi : ops[i]? = some oi := by exact rfl
  hN : oi.dst = N := by exact rfl
  hl : l.setIfInBounds i true = l' := by simp only [Geo.sa_, Geo.sb_, Geo.sc_]; rfl
  hc : anyT T l.toList l'.toList i = true := by kernel_rfl
  hQ : ∀ c a w, Q (.panic c) (a.put oi.dst undef) w → Q (.panic c) a w := by exact fun _ _ _ h => h
  hw : Region.wanted oi (yielded ops a.tmps) = false := by kernel_rfl
  ha : a.put N undef = a' := by simp only [Act.put, Geo.sa_, Geo.sb_, Geo.sc_, i64_w, i32_w]; rfl
structure Tk (P : Program) (md : Region.Mode) (ops : Array Oper) (Q : Exit → Act → World → Prop) (S : World → Prop) (ds : List Nat) (T : Bool × List (List Nat × List Nat)) (B : List Nat) (i : Nat) (oi : Oper) (N : Option Tmp) (v : Value) (l l' : Array Bool) (a a' : Act) : Prop where
  hi : ops[i]? = some oi := by exact rfl
  hN : oi.dst = N := by exact rfl
  hl : l.setIfInBounds i true = l' := by simp only [Geo.sa_, Geo.sb_, Geo.sc_]; rfl
  hc : takeW T B ds l.toList l'.toList i = true := by kernel_rfl
  hQ : ∀ c a w, Q (.panic c) (a.put oi.dst v) w → Q (.panic c) a w := by exact fun _ _ _ h => h
  hw : Region.wanted oi (yielded ops a.tmps) = true := by kernel_rfl
  hy : ∀ w', S w' → (execOp a.eval oi).run P w' = .ok (.value v) w' := by intro w' hS_; go_simp; with_reducible rfl
  ha : a.put N v = a' := by simp only [Act.put, Geo.sa_, Geo.sb_, Geo.sc_, i64_w, i32_w]; rfl
section
variable {P : Program} {ops : Array Oper} {Q : Exit → Act → World → Prop} {md : Region.Mode} {S : World → Prop} {ds : List Nat} {T : Bool × List (List Nat × List Nat)} {oi : Oper} {v : Value} {fuel : Nat} {l l' : Array Bool} {a a' : Act} {w : World}
theorem pu_ (hT : rtab md ops = T) (i n : Nat) (s : Pu P md ops Q T i oi (some n) v l l' a a') (h : wpAnyLast P md ops Q S ds fuel l' a' w) : wpAnyLast P md ops Q S ds (fuel + 1) l a w :=
  pure_ _ s.hi s.hN (any_of hT s.hc) s.hQ (Or.inl ⟨s.hw, s.hy⟩) s.ha h
theorem pv_ (hT : rtab md ops = T) (i n : Nat) (s : Pv md ops Q T i oi (some n) l l' a a') (h : wpAnyLast P md ops Q S ds fuel l' a' w) : wpAnyLast P md ops Q S ds (fuel + 1) l a w :=
  pure_ _ s.hi s.hN (any_of hT s.hc) s.hQ (Or.inr ⟨s.hw, rfl⟩) s.ha h
theorem tk_ {B : List Nat} (hT : rtab md ops = T) (hB : waitsOk T.2 B = true) (i n : Nat) (hS : S w) (s : Tk P md ops Q S ds T B i oi (some n) v l l' a a') (h : wpAnyLast P md ops Q S ds fuel l' a' w) : wpAnyLast P md ops Q S ds (fuel + 1) l a w :=
  take_ _ s.hi s.hN (take_ofW hT hB s.hc) s.hQ (Or.inl ⟨s.hw, s.hy⟩) hS s.ha h
end
end Go.Proofs.YtddbahlofgkoaaaDoor.PA
namespace Go.Proofs.YtddbahlofgkoaaaDoor.PA
open Go.RowKit Go.Proofs.YtddbahlofgkoaaaDoorW.PrintWords Go.Proofs.YtddbahlofgkoaaaDoorW.PrintLast Go.Proofs.YtddbahlofgkoaaaDoorW.PrintMore
attribute [local go_sem] max2_int min2_int max_two min_two max_three min_three max_four min_four   -- for this text's walks alone
set_option linter.unusedVariables false
set_option linter.unusedSimpArgs false



def errW : Option Int → Value
 | none => .nilIface
 | some c => .iface 0 (.int .i64 c)
theorem errW_none : errW none = .nilIface := rfl
theorem errW_some (c : Int) : errW (some c) = .iface 0 (.int .i64 c) := rfl

theorem info3 : (Tryd.prog.info? 3).map (fun i => (i.zero, i.size, i.bytes)) = some (some (.int .i64 0), 1, 8) := by kernel_rfl
theorem info5 : (Tryd.prog.info? 5).map (fun i => (i.zero, i.size, i.bytes)) = some (some (.int .u8 0), 1, 1) := by kernel_rfl
theorem info9 : (Tryd.prog.info? 9).map (fun i => (i.zero, i.size, i.bytes)) = some (some (.string ⟨#[]⟩), 1, 16) := by kernel_rfl
theorem info28 : (Tryd.prog.info? 28).map (fun i => (i.zero, i.size, i.bytes)) = some (some (.slice none 0 0), 1, 24) := by kernel_rfl
theorem info97 : (Tryd.prog.info? 97).map (fun i => (i.zero, i.size, i.bytes)) = some (some (.agg #[(.int .i64 0), (.int .i64 0)]), 2, 16) := by kernel_rfl
theorem info107 : (Tryd.prog.info? 107).map (fun i => (i.zero, i.size, i.bytes)) = some (some (.agg #[(.int .i64 0), (.int .i64 0), (.int .i64 0), (.int .i64 0)]), 4, 32) := by kernel_rfl
-- the values' own types
/-! #### struct type 38 -/
structure S38 where
 f0 : Int
 f1 : Int
def z38 : S38 := ⟨(0 : Int), (0 : Int)⟩
def k38 : Kd S38 := Kd.iso (Kd.pair (Kd.int .i64) (Kd.int .i64)) (fun x : S38 => (x.f0, x.f1))
theorem k38_open {w : World} {x : S38} {cs : List Value} (h : k38.K w x cs) : cs = [.int .i64 x.f0, .int .i64 x.f1] := by
 obtain ⟨_, _, rfl, rfl, rfl⟩ := h; exact rfl
theorem k38_openM {w : World} {base : Nat} {ok : Nat → Prop} {x : S38} {cs : List Value} (h : k38.M w base ok x cs) : cs = [.int .i64 x.f0, .int .i64 x.f1] := by
 obtain ⟨_, _, rfl, rfl, rfl⟩ := h; exact rfl
theorem k38_mk (w : World) (x : S38)  : k38.K w x [.int .i64 x.f0, .int .i64 x.f1] := ⟨[.int .i64 x.f0], [.int .i64 x.f1], rfl, rfl, rfl⟩
theorem k38_mkM (w : World) (base : Nat) (ok : Nat → Prop) (x : S38)  : k38.M w base ok x [.int .i64 x.f0, .int .i64 x.f1] := ⟨[.int .i64 x.f0], [.int .i64 x.f1], rfl, rfl, rfl⟩
def rd_T38 (xs : List S38) (i : Int) : S38 := xs.getD i.toNat z38
theorem at_T38 {w : World} {A : Option Addr} {n : Nat} {xs : List S38} (h : Kd.C k38 w A n xs) (i : Int) (h0 : 0 ≤ i) (h1 : i < n) : ∃ ad , A = some ad ∧ w.cell? (ad.add (i.toNat * 2)) = some (.int .i64 (rd_T38 xs i).f0) ∧ w.cell? ⟨(ad.add (i.toNat * 2)).block, (ad.add (i.toNat * 2)).off + 1, none⟩ = some (.int .i64 (rd_T38 xs i).f1) := by
 obtain ⟨ad, c, e, _, hK, hc0⟩ := Kd.C_get h z38 i h0 h1; have hc : ∀ j u, c[j]? = some u → w.cell? (ad.add (i.toNat * 2 + j)) = some u := hc0; obtain rfl := k38_open hK; exact ⟨ad, e, hc 0 _ rfl, by rw [← add_field _ _ 1 (by omega)]; exact hc 1 _ rfl⟩

/-! #### struct type 97 -/
structure S97 where
 f0 : Int
 f1 : Int
def z97 : S97 := ⟨(0 : Int), (0 : Int)⟩
def k97 : Kd S97 := Kd.iso (Kd.pair (Kd.int .i64) (Kd.int .i64)) (fun x : S97 => (x.f0, x.f1))
theorem k97_open {w : World} {x : S97} {cs : List Value} (h : k97.K w x cs) : cs = [.int .i64 x.f0, .int .i64 x.f1] := by
 obtain ⟨_, _, rfl, rfl, rfl⟩ := h; exact rfl
theorem k97_openM {w : World} {base : Nat} {ok : Nat → Prop} {x : S97} {cs : List Value} (h : k97.M w base ok x cs) : cs = [.int .i64 x.f0, .int .i64 x.f1] := by
 obtain ⟨_, _, rfl, rfl, rfl⟩ := h; exact rfl
theorem k97_mk (w : World) (x : S97)  : k97.K w x [.int .i64 x.f0, .int .i64 x.f1] := ⟨[.int .i64 x.f0], [.int .i64 x.f1], rfl, rfl, rfl⟩
theorem k97_mkM (w : World) (base : Nat) (ok : Nat → Prop) (x : S97)  : k97.M w base ok x [.int .i64 x.f0, .int .i64 x.f1] := ⟨[.int .i64 x.f0], [.int .i64 x.f1], rfl, rfl, rfl⟩
def rd_T97 (xs : List S97) (i : Int) : S97 := xs.getD i.toNat z97
theorem at_T97 {w : World} {A : Option Addr} {n : Nat} {xs : List S97} (h : Kd.C k97 w A n xs) (i : Int) (h0 : 0 ≤ i) (h1 : i < n) : ∃ ad , A = some ad ∧ w.cell? (ad.add (i.toNat * 2)) = some (.int .i64 (rd_T97 xs i).f0) ∧ w.cell? ⟨(ad.add (i.toNat * 2)).block, (ad.add (i.toNat * 2)).off + 1, none⟩ = some (.int .i64 (rd_T97 xs i).f1) := by
 obtain ⟨ad, c, e, _, hK, hc0⟩ := Kd.C_get h z97 i h0 h1; have hc : ∀ j u, c[j]? = some u → w.cell? (ad.add (i.toNat * 2 + j)) = some u := hc0; obtain rfl := k97_open hK; exact ⟨ad, e, hc 0 _ rfl, by rw [← add_field _ _ 1 (by omega)]; exact hc 1 _ rfl⟩

/-! #### struct type 107 -/
structure S107 where
 f0 : S97
 f1 : S97
def z107 : S107 := ⟨z97, z97⟩
def k107 : Kd S107 := Kd.iso (Kd.pair k97 k97) (fun x : S107 => (x.f0, x.f1))
theorem k107_open {w : World} {x : S107} {cs : List Value} (h : k107.K w x cs) : cs = [.int .i64 x.f0.f0, .int .i64 x.f0.f1, .int .i64 x.f1.f0, .int .i64 x.f1.f1] := by
 obtain ⟨_, _, rfl, s0, s2⟩ := h; obtain rfl := k97_open s0; obtain rfl := k97_open s2; exact rfl
theorem k107_openM {w : World} {base : Nat} {ok : Nat → Prop} {x : S107} {cs : List Value} (h : k107.M w base ok x cs) : cs = [.int .i64 x.f0.f0, .int .i64 x.f0.f1, .int .i64 x.f1.f0, .int .i64 x.f1.f1] := by
 obtain ⟨_, _, rfl, s0, s2⟩ := h; obtain rfl := k97_openM s0; obtain rfl := k97_openM s2; exact rfl
theorem k107_mk (w : World) (x : S107)  : k107.K w x [.int .i64 x.f0.f0, .int .i64 x.f0.f1, .int .i64 x.f1.f0, .int .i64 x.f1.f1] := ⟨[.int .i64 x.f0.f0, .int .i64 x.f0.f1], [.int .i64 x.f1.f0, .int .i64 x.f1.f1], rfl, (k97_mk w x.f0 ), (k97_mk w x.f1 )⟩
theorem k107_mkM (w : World) (base : Nat) (ok : Nat → Prop) (x : S107)  : k107.M w base ok x [.int .i64 x.f0.f0, .int .i64 x.f0.f1, .int .i64 x.f1.f0, .int .i64 x.f1.f1] := ⟨[.int .i64 x.f0.f0, .int .i64 x.f0.f1], [.int .i64 x.f1.f0, .int .i64 x.f1.f1], rfl, (k97_mkM w base ok x.f0 ), (k97_mkM w base ok x.f1 )⟩
def rd_T107 (xs : List S107) (i : Int) : S107 := xs.getD i.toNat z107
theorem at_T107 {w : World} {A : Option Addr} {n : Nat} {xs : List S107} (h : Kd.C k107 w A n xs) (i : Int) (h0 : 0 ≤ i) (h1 : i < n) : ∃ ad , A = some ad ∧ w.cell? (ad.add (i.toNat * 4)) = some (.int .i64 (rd_T107 xs i).f0.f0) ∧ w.cell? ⟨(ad.add (i.toNat * 4)).block, (ad.add (i.toNat * 4)).off + 1, none⟩ = some (.int .i64 (rd_T107 xs i).f0.f1) ∧ w.cell? ⟨(ad.add (i.toNat * 4)).block, (ad.add (i.toNat * 4)).off + 2, none⟩ = some (.int .i64 (rd_T107 xs i).f1.f0) ∧ w.cell? ⟨(ad.add (i.toNat * 4)).block, (ad.add (i.toNat * 4)).off + 3, none⟩ = some (.int .i64 (rd_T107 xs i).f1.f1) := by
 obtain ⟨ad, c, e, _, hK, hc0⟩ := Kd.C_get h z107 i h0 h1; have hc : ∀ j u, c[j]? = some u → w.cell? (ad.add (i.toNat * 4 + j)) = some u := hc0; obtain rfl := k107_open hK; exact ⟨ad, e, hc 0 _ rfl, by rw [← add_field _ _ 1 (by omega)]; exact hc 1 _ rfl, by rw [← add_field _ _ 2 (by omega)]; exact hc 2 _ rfl, by rw [← add_field _ _ 3 (by omega)]; exact hc 3 _ rfl⟩

def rd_L6 (xs : List (List S97)) (i : Int) : (List S97) := xs.getD i.toNat ([] : List S97)
theorem at_L6 {w : World} {A : Option Addr} {n : Nat} {xs : List (List S97)} (h : Kd.C (Kd.slice 97 k97) w A n xs) (i : Int) (h0 : 0 ≤ i) (h1 : i < n) : ∃ ad A0 c0, A = some ad ∧ w.cell? (ad.add i.toNat) = some (.slice A0 (rd_L6 xs i).length c0) ∧ (rd_L6 xs i).length ≤ c0 ∧ k97.C w A0 (rd_L6 xs i).length (rd_L6 xs i) := by
 obtain ⟨ad, c, e, _, hK, hc0⟩ := Kd.C_get h ([] : List S97) i h0 h1; have hc : ∀ j u, c[j]? = some u → w.cell? (ad.add (i.toNat * 1 + j)) = some u := hc0; obtain ⟨A0, c0, rfl, l0, g0⟩ := hK; exact ⟨ad, A0, c0, e, by have hq := hc 0 _ rfl; rwa [Nat.mul_one, Nat.add_zero] at hq, l0, g0⟩

/-! #### struct type 114 -/
structure S114 where
 f0 : Int
 f1 : Int
def z114 : S114 := ⟨(0 : Int), (0 : Int)⟩
def k114 : Kd S114 := Kd.iso (Kd.pair (Kd.int .i64) (Kd.int .i64)) (fun x : S114 => (x.f0, x.f1))
theorem k114_open {w : World} {x : S114} {cs : List Value} (h : k114.K w x cs) : cs = [.int .i64 x.f0, .int .i64 x.f1] := by
 obtain ⟨_, _, rfl, rfl, rfl⟩ := h; exact rfl
theorem k114_openM {w : World} {base : Nat} {ok : Nat → Prop} {x : S114} {cs : List Value} (h : k114.M w base ok x cs) : cs = [.int .i64 x.f0, .int .i64 x.f1] := by
 obtain ⟨_, _, rfl, rfl, rfl⟩ := h; exact rfl
theorem k114_mk (w : World) (x : S114)  : k114.K w x [.int .i64 x.f0, .int .i64 x.f1] := ⟨[.int .i64 x.f0], [.int .i64 x.f1], rfl, rfl, rfl⟩
theorem k114_mkM (w : World) (base : Nat) (ok : Nat → Prop) (x : S114)  : k114.M w base ok x [.int .i64 x.f0, .int .i64 x.f1] := ⟨[.int .i64 x.f0], [.int .i64 x.f1], rfl, rfl, rfl⟩
def rd_T114 (xs : List S114) (i : Int) : S114 := xs.getD i.toNat z114
theorem at_T114 {w : World} {A : Option Addr} {n : Nat} {xs : List S114} (h : Kd.C k114 w A n xs) (i : Int) (h0 : 0 ≤ i) (h1 : i < n) : ∃ ad , A = some ad ∧ w.cell? (ad.add (i.toNat * 2)) = some (.int .i64 (rd_T114 xs i).f0) ∧ w.cell? ⟨(ad.add (i.toNat * 2)).block, (ad.add (i.toNat * 2)).off + 1, none⟩ = some (.int .i64 (rd_T114 xs i).f1) := by
 obtain ⟨ad, c, e, _, hK, hc0⟩ := Kd.C_get h z114 i h0 h1; have hc : ∀ j u, c[j]? = some u → w.cell? (ad.add (i.toNat * 2 + j)) = some u := hc0; obtain rfl := k114_open hK; exact ⟨ad, e, hc 0 _ rfl, by rw [← add_field _ _ 1 (by omega)]; exact hc 1 _ rfl⟩

def rd_L9 (xs : List (List ByteArray)) (i : Int) : (List ByteArray) := xs.getD i.toNat ([] : List ByteArray)
theorem at_L9 {w : World} {A : Option Addr} {n : Nat} {xs : List (List ByteArray)} (h : Kd.C (Kd.slice 9 Kd.string) w A n xs) (i : Int) (h0 : 0 ≤ i) (h1 : i < n) : ∃ ad A0 c0, A = some ad ∧ w.cell? (ad.add i.toNat) = some (.slice A0 (rd_L9 xs i).length c0) ∧ (rd_L9 xs i).length ≤ c0 ∧ Kd.string.C w A0 (rd_L9 xs i).length (rd_L9 xs i) := by
 obtain ⟨ad, c, e, _, hK, hc0⟩ := Kd.C_get h ([] : List ByteArray) i h0 h1; have hc : ∀ j u, c[j]? = some u → w.cell? (ad.add (i.toNat * 1 + j)) = some u := hc0; obtain ⟨A0, c0, rfl, l0, g0⟩ := hK; exact ⟨ad, A0, c0, e, by have hq := hc 0 _ rfl; rwa [Nat.mul_one, Nat.add_zero] at hq, l0, g0⟩

def rd_L10 (xs : List (List S114)) (i : Int) : (List S114) := xs.getD i.toNat ([] : List S114)
theorem at_L10 {w : World} {A : Option Addr} {n : Nat} {xs : List (List S114)} (h : Kd.C (Kd.slice 114 k114) w A n xs) (i : Int) (h0 : 0 ≤ i) (h1 : i < n) : ∃ ad A0 c0, A = some ad ∧ w.cell? (ad.add i.toNat) = some (.slice A0 (rd_L10 xs i).length c0) ∧ (rd_L10 xs i).length ≤ c0 ∧ k114.C w A0 (rd_L10 xs i).length (rd_L10 xs i) := by
 obtain ⟨ad, c, e, _, hK, hc0⟩ := Kd.C_get h ([] : List S114) i h0 h1; have hc : ∀ j u, c[j]? = some u → w.cell? (ad.add (i.toNat * 1 + j)) = some u := hc0; obtain ⟨A0, c0, rfl, l0, g0⟩ := hK; exact ⟨ad, A0, c0, e, by have hq := hc 0 _ rfl; rwa [Nat.mul_one, Nat.add_zero] at hq, l0, g0⟩

end Go.Proofs.YtddbahlofgkoaaaDoor.PA
namespace Go.Proofs.YtddbahlofgkoaaaDoor.PA
open Go.RowKit Go.Proofs.YtddbahlofgkoaaaDoorW.PrintWords Go.Proofs.YtddbahlofgkoaaaDoorW.PrintLast Go.Proofs.YtddbahlofgkoaaaDoorW.PrintMore
attribute [local go_sem] max2_int min2_int max_two min_two max_three min_three max_four min_four   -- for this text's walks alone
set_option linter.unusedVariables false
set_option linter.unusedSimpArgs false

theorem eqA38 (d : Nat) (w : World) (x0 y0 : Int) (x1 y1 : Int) :
  (Op.equalIn (d + 2) 38 (.agg #[.int .i64 x0, .int .i64 x1]) (.agg #[.int .i64 y0, .int .i64 y1])).run Tryd.prog w = .ok (x0 == y0 && (x1 == y1)) w := by
 refine eqA_of Tryd.underlying38 (by kernel_rfl) ?_; refine eqf_cons (by rfl) (by go_simp; rfl) (by go_simp; rfl) (by go_simp) ?_; exact eqf_last (by rfl) (by go_simp; rfl) (by go_simp; rfl) (by go_simp)
end Go.Proofs.YtddbahlofgkoaaaDoor.PA
namespace Go.Proofs.YtddbahlofgkoaaaDoor.PA
open Go.RowKit Go.Proofs.YtddbahlofgkoaaaDoorW.PrintWords Go.Proofs.YtddbahlofgkoaaaDoorW.PrintLast Go.Proofs.YtddbahlofgkoaaaDoorW.PrintMore
attribute [local go_sem] max2_int min2_int max_two min_two max_three min_three max_four min_four   -- for this text's walks alone
set_option linter.unusedVariables false
set_option linter.unusedSimpArgs false

/-! ### impl_commonDivisor: function 61 -/
def impl_commonDivisor.l0 : Nat → Int → Int → Option (Int)
 | 0, _, _ => none
 | k + 1, x0, x1 => if x1 = 0 then (some x0) else (impl_commonDivisor.l0 k x1 (Int.tmod x0 x1))
def impl_commonDivisor.f (k : Nat) (a0 : Int) (a1 : Int) : Option (Int) := impl_commonDivisor.l0 k a0 a1
theorem impl_commonDivisor.mono_l : ∀ k, (∀ y0 y1, LeO (impl_commonDivisor.l0 k y0 y1) (impl_commonDivisor.l0 (k + 1) y0 y1))
 | 0 => fun _ _ r h => by simp [impl_commonDivisor.l0] at h
 | k + 1 => by
  have ih0 := impl_commonDivisor.mono_l k
  ·intro y0 y1; unfold impl_commonDivisor.l0; repeat' first
   | (with_reducible exact ih0 _ _)
   | (with_reducible exact LeO.refl _)
   | (with_reducible exact LeO.none _)
   | (with_reducible refine LeO.ite ?_ ?_)
   | (with_reducible refine LeO.bind ?_ (fun _ => ?_))
   | exact ih0 _ _
   | exact LeO.none _
   | refine LeO.ite ?_ ?_
   | refine LeO.bind ?_ (fun _ => ?_)
theorem impl_commonDivisor.mono : ∀ a0 a1 k, LeO (impl_commonDivisor.f k a0 a1) (impl_commonDivisor.f (k + 1) a0 a1) := by
 intro a0 a1 k; have ih0 := impl_commonDivisor.mono_l k; unfold impl_commonDivisor.f; repeat' first
   | (with_reducible exact ih0 _ _)
   | (with_reducible exact LeO.refl _)
   | (with_reducible exact LeO.none _)
   | (with_reducible refine LeO.ite ?_ ?_)
   | (with_reducible refine LeO.bind ?_ (fun _ => ?_))
   | exact ih0 _ _
   | exact LeO.none _
   | refine LeO.ite ?_ ?_
   | refine LeO.bind ?_ (fun _ => ?_)
set_option maxHeartbeats 8000000 in
set_option maxRecDepth 100000 in
theorem impl_commonDivisor.calls (k : Nat) (a0 : Int) (a1 : Int) (r : Int) (w : World) (h : impl_commonDivisor.f k a0 a1 = some r) :
  Calls Tryd.prog 61 #[.int .i64 a0, .int .i64 a1] w fun e w' => e = .returned (.int .i64 r) ∧ Drawn0 w w' := by
 have H : (impl_commonDivisor.l0 k a0 a1) = some r := h; clear h; have H' := Aside0.mk H; clear H; go_enter Tryd.func61, Tryd.ntmps61
 go_wp2
 repeat (go_quiet (fail); try go_wp2)
 go_loopg [0, 1] k (fun kq v0 v1 w' => ∃ (x0_1 : Int) (x1_1 : Int), v0 = .int .i64 x0_1 ∧ v1 = .int .i64 x1_1 ∧ Aside0 (impl_commonDivisor.l0 kq x0_1 x1_1 = some r) ∧ Aside0 (kq ≤ k) ∧ Drawn0 w w')
 case atStart => exact ⟨(a0), (a1), (by first | rfl | (simp; done) | (simp [*]; done)), (by first | rfl | (simp; done) | (simp [*]; done)), H', ⟨Nat.le_refl _⟩, by repeat (first | exact Drawn0.refl _ | apply Drawn0.step)⟩
 case round =>
  clear H'; try clear p2
  obtain ⟨x0_1, x1_1, rfl, rfl, HA, HK1, ⟨m1, rfl⟩⟩ := hrel; cases gk with
  | zero => exact absurd HA.out (by simp [impl_commonDivisor.l0])
  | succ k1 =>
   have H := HA.out; clear HA; simp only [impl_commonDivisor.l0] at H; by_cases c3 : x1_1 = 0
   ·rw [if_pos c3] at H; have c3b0 : (x1_1 == 0) = true := beq_iff_eq.mpr c3; have c3b1 : (x1_1 != 0) = false := bne_eq_false_iff_eq.mpr c3; clear c3; obtain rfl := Option.some.inj H; go_wp2
    repeat (go_quiet (fail); try go_wp2)
    go_ret
    exact ⟨by first | rfl | (simp; done) | (simp [*]; done), by repeat (first | exact Drawn0.refl _ | apply Drawn0.step)⟩
   ·rw [if_neg c3] at H; have c3b0 : (x1_1 == 0) = false := beq_eq_false_iff_ne.mpr c3; have c3b1 : (x1_1 != 0) = true := bne_iff_ne.mpr c3; have H' := Aside0.mk H; clear H; go_wp2
    repeat (go_quiet (fail); try go_wp2)
    go_roundg k1
    case measure => have := HK1.out; omega
    case rel => exact ⟨(x1_1), (Int.tmod x0_1 x1_1), (by first | rfl | (simp; done) | (simp [*]; done)), (by first | rfl | (simp; done) | (simp [*]; done)), H', ⟨by have := HK1.out; omega⟩, by repeat (first | exact Drawn0.refl _ | apply Drawn0.step)⟩

-- NOT PRINTED: function 52 (impl_amountOf)

end Go.Proofs.YtddbahlofgkoaaaDoor.PA
namespace Go.Proofs.YtddbahlofgkoaaaDoor.PA
open Go.RowKit Go.Proofs.YtddbahlofgkoaaaDoorW.PrintWords Go.Proofs.YtddbahlofgkoaaaDoorW.PrintLast Go.Proofs.YtddbahlofgkoaaaDoorW.PrintMore
attribute [local go_sem] max2_int min2_int max_two min_two max_three min_three max_four min_four   -- for this text's walks alone
set_option linter.unusedVariables false
set_option linter.unusedSimpArgs false

/-! ### impl_FracOk: function 19 -/
section
open Go.Extern.Stop Go.Stop Go.Extern
theorem Er.typeOf (v : Value) (w : World) : (callFunc 80 #[.iface 186 v]).run Tryd.prog w = .ok (.value (.iface 145 (.agg #[.pointer (some ⟨7, 186, none⟩)]))) w := by kernel_rfl
theorem Er.comparable (w : World) : (callFunc 159 #[.agg #[.pointer (some ⟨7, 186, none⟩)]]).run Tryd.prog w = .ok (.value (.bool true)) w := by kernel_rfl
theorem Er.methodComparable (n : Nat) (v : Value) (w : World) : (Go.method (n + 1) 145 v "Comparable").run Tryd.prog w = .ok (159, v) w := by kernel_rfl
theorem Er.comp : (Tryd.prog.info? 186).map (·.comparable) = some true := by kernel_rfl
theorem Er.size : (Tryd.prog.info? 211).map (·.size) = some 1 := by kernel_rfl
set_option maxRecDepth 100000 in
theorem Er.is_same (a : Addr) (w : World) :
    Calls Tryd.prog 53 #[.iface 186 (.pointer (some a)), .iface 186 (.pointer (some a))] w fun e w' => e = .returned (.bool true) ∧ w' = w := by
  obtain ⟨i, hi, hcmp⟩ := Option.map_eq_some_iff.1 Er.comp
  obtain ⟨j, hj, hjs⟩ := Option.map_eq_some_iff.1 Er.size
  have tT := Er.typeOf
  have cT := Er.comparable
  have mR := Er.methodComparable
  have heq := run_eql_iface_ptr_same (P := Tryd.prog) w a Tryd.underlying78 Tryd.underlying186 hi hcmp hj
  go_enter Tryd.func53, Tryd.ntmps53
  go_wp2
  refine wp_loop_rounds 1 ?_
  rw [rounds_succ]
  go_wp2
  go_ret
  exact ⟨rfl, rfl⟩
theorem Er.is_nil (b : Addr) (w : World) :
    Calls Tryd.prog 53 #[.nilIface, .iface 186 (.pointer (some b))] w fun e w' => e = .returned (.bool false) ∧ w' = w := by
  have hn := run_eql_iface_nil_left (P := Tryd.prog) w 186 (.pointer (some b)) Tryd.underlying78
  go_enter Tryd.func53, Tryd.ntmps53
  go_wp2
  go_ret
  exact ⟨rfl, rfl⟩
def ErrCell (w : World) : Prop := ∃ a, w.cell? ⟨0, 0, none⟩ = some (.iface 186 (.pointer (some a)))
theorem ErrCell.below {w w' : World} (h : ErrCell w) (hb : Below w.heap.size w w') : ErrCell w' := by
  obtain ⟨a, ha⟩ := h
  exact ⟨a, (hb.cell (World.block_lt_of_cell? w _ ha)).trans ha⟩
def impl_FracOk.f (k : Nat) (n d : Int) : Option Bool := if n < 0 ∨ 99999 < n ∨ d < 1 ∨ 99999 < d then some false else (impl_commonDivisor.f k n d).bind fun g => some (decide (g = 1))
theorem impl_FracOk.mono : ∀ a0 a1 k, LeO (impl_FracOk.f k a0 a1) (impl_FracOk.f (k + 1) a0 a1) := by
  intro a0 a1 k
  unfold impl_FracOk.f
  exact LeO.ite (LeO.refl _) (LeO.bind (impl_commonDivisor.mono _ _ _) (fun _ => LeO.refl _))
theorem impl_amountOf.drawn {w w' : World} (h : Drawn0 w w') : Below w.heap.size w w' := by
  obtain ⟨n_, rfl⟩ := h.out
  exact pw_below_drewN (Below.refl _ _) n_
theorem impl_amountOf.fin {a b : Prop} (x : a ∧ b) : b := x.2
set_option maxRecDepth 100000 in
set_option maxHeartbeats 4000000 in
theorem impl_amountOf.bad (n d : Int) (a : Addr) (w : World) (ha : w.cell? ⟨0, 0, none⟩ = some (.iface 186 (.pointer (some a)))) (hbad : n < 0 ∨ 99999 < n ∨ d < 1 ∨ 99999 < d) :
    Calls Tryd.prog 52 #[.agg #[.int .i64 n, .int .i64 d]] w fun e w' => e = .returned (.tuple #[.nilIface, .iface 186 (.pointer (some a))]) ∧ Below w.heap.size w w' := by
  have hu1 := Tryd.underlying38
  have lt := World.block_lt_of_cell? w _ ha
  have hB : Below w.heap.size w (w.alloc (.cells #[.int .i64 n, .int .i64 d] 38)) := (Below.refl _ w).alloc (Nat.le_refl _) _
  have g := (hB.cell lt).trans ha
  have HG := Aside0.mk g
  have HB := Aside0.mk hB
  clear hB lt g ha
  go_enter Tryd.func52, Tryd.ntmps52
  by_cases c1 : n < 0 <;> by_cases c2 : 99999 < n <;> by_cases c3 : d < 1 <;> by_cases c4 : 99999 < d
  all_goals first | (exfalso; omega) | skip
  all_goals
    clear hbad
    go_wp2
    obtain ⟨W, hW⟩ : ∃ W, w.alloc (.cells #[.int .i64 n, .int .i64 d] 38) = W := ⟨_, rfl⟩
    rw [hW] at HG HB ⊢
    clear hW
    have KS : Aside0 (∀ w', Below W.heap.size W w' → w'.cell? ⟨0, 0, none⟩ = some (.iface 186 (.pointer (some a))) ∧ Below W.heap.size W w') :=
      ⟨fun w' hb => ⟨(hb.cell (World.block_lt_of_cell? W _ HG.out)).trans HG.out, hb⟩⟩
    go_region_held3 (fun w' => w'.cell? ⟨0, 0, none⟩ = some (.iface 186 (.pointer (some a))) ∧ Below W.heap.size W w') (first | assumption | (refine KS.out _ ?_; repeat (first | exact Below.refl _ _ | exact impl_amountOf.fin (by assumption) | apply below_drew1 | apply pw_below_drewN))) (first | fail)
    have hb2 : Below W.heap.size W W.drew := (Below.refl _ W).drew
    have HB2 := Aside0.mk (HB.out.trans (hb2.mono HB.out.size))
    clear hb2
    go_wp2
    go_ret2
    exact ⟨rfl, HB2.out⟩
set_option maxRecDepth 100000 in
set_option maxHeartbeats 4000000 in
theorem impl_amountOf.good (k : Nat) (n d q : Int) (a : Addr) (w : World) (ha : w.cell? ⟨0, 0, none⟩ = some (.iface 186 (.pointer (some a)))) (hok : ¬ (n < 0 ∨ 99999 < n ∨ d < 1 ∨ 99999 < d)) (hq : impl_commonDivisor.f k n d = some q) :
    Calls Tryd.prog 52 #[.agg #[.int .i64 n, .int .i64 d]] w fun e w' => (∃ v, e = .returned (.tuple #[v, if q = 1 then .nilIface else .iface 186 (.pointer (some a))])) ∧ Below w.heap.size w w' := by
  have hu1 := Tryd.underlying38
  have lt := World.block_lt_of_cell? w _ ha
  have hB : Below w.heap.size w (w.alloc (.cells #[.int .i64 n, .int .i64 d] 38)) := (Below.refl _ w).alloc (Nat.le_refl _) _
  have g := (hB.cell lt).trans ha
  have HG := Aside0.mk g
  have HB := Aside0.mk hB
  have HQ := Aside0.mk hq
  have HGF := Aside0.mk (blk_new w (.cells #[.int .i64 n, .int .i64 d] 38))
  have c1 : ¬ n < 0 := by omega
  have c2 : ¬ 99999 < n := by omega
  have c3 : ¬ d < 1 := by omega
  have c4 : ¬ 99999 < d := by omega
  clear hB lt g ha hok hq
  by_cases e1 : q = 1
  · subst e1
    go_enter Tryd.func52, Tryd.ntmps52
    go_wp2_with (first | (go_at_call 61; refine (impl_commonDivisor.calls k n d _ _ HQ.out).mono ?_; rintro e W ⟨rfl, hd⟩; have hb1 := impl_amountOf.drawn hd; clear hd; have gf := blk_below HGF.out hb1; have g0 : W.cell? ⟨w.heap.size, 0, none⟩ = some (.int .i64 n) := blk_cell gf 0; have g1 : W.cell? ⟨w.heap.size, 1, none⟩ = some (.int .i64 d) := blk_cell gf 1))
    have HB1 := Aside0.mk (HB.out.trans (hb1.mono HB.out.size))
    clear hb1 g0 g1 gf HG HB HGF
    go_wp2
    go_ret2
    exact ⟨⟨_, rfl⟩, HB1.out⟩
  · have e2 := bne_iff_ne.2 e1
    go_enter Tryd.func52, Tryd.ntmps52
    go_wp2_with (first | (go_at_call 61; refine (impl_commonDivisor.calls k n d _ _ HQ.out).mono ?_; rintro e W ⟨rfl, hd⟩; have hb1 := impl_amountOf.drawn hd; clear hd; have gf := blk_below HGF.out hb1; have g0 : W.cell? ⟨w.heap.size, 0, none⟩ = some (.int .i64 n) := blk_cell gf 0; have g1 : W.cell? ⟨w.heap.size, 1, none⟩ = some (.int .i64 d) := blk_cell gf 1))
    have HB1 := Aside0.mk (HB.out.trans (hb1.mono HB.out.size))
    have HG1 := Aside0.mk ((hb1.cell (World.block_lt_of_cell? _ _ HG.out)).trans HG.out)
    clear hb1 g0 g1 gf HG HB HGF
    have KS : Aside0 (∀ w', Below W.heap.size W w' → w'.cell? ⟨0, 0, none⟩ = some (.iface 186 (.pointer (some a))) ∧ Below W.heap.size W w') :=
      ⟨fun w' hb => ⟨(hb.cell (World.block_lt_of_cell? W _ HG1.out)).trans HG1.out, hb⟩⟩
    go_region_held3 (fun w' => w'.cell? ⟨0, 0, none⟩ = some (.iface 186 (.pointer (some a))) ∧ Below W.heap.size W w') (first | assumption | (refine KS.out _ ?_; repeat (first | exact Below.refl _ _ | exact impl_amountOf.fin (by assumption) | apply below_drew1 | apply pw_below_drewN))) (first | fail)
    have hb2 : Below W.heap.size W W.drew := (Below.refl _ W).drew
    have HB2 := Aside0.mk (HB1.out.trans (hb2.mono HB1.out.size))
    clear hb2
    go_wp2
    go_ret2
    exact ⟨⟨_, rfl⟩, HB2.out⟩
set_option maxRecDepth 100000 in
set_option maxHeartbeats 4000000 in
theorem impl_FracOk.calls (k : Nat) (a0_0 : Int) (a0_1 : Int) (r : Bool) (w : World) (h : impl_FracOk.f k a0_0 a0_1 = some r) (hE : ErrCell w := by refine ErrCell.below (Aside0.out (by assumption)) ?_; repeat (first | exact Aside0.out (by assumption) | apply below_alloc | apply pw_below_drewN | apply below_drew1 | refine below_set ?_ (Aside0.out (by assumption)))) :
    Calls Tryd.prog 19 #[.agg #[.int .i64 a0_0, .int .i64 a0_1]] w fun e w' => e = .returned (.bool r) ∧ Below w.heap.size w w' := by
  have hu1 := Tryd.underlying38
  obtain ⟨a, ha⟩ := hE
  have lt := World.block_lt_of_cell? w _ ha
  have hB : Below w.heap.size w (w.alloc (.cells #[.int .i64 a0_0, .int .i64 a0_1] 38)) := (Below.refl _ w).alloc (Nat.le_refl _) _
  have HG := Aside0.mk ((hB.cell lt).trans ha)
  have HB := Aside0.mk hB
  unfold impl_FracOk.f at h
  have IS := Aside0.mk (Er.is_same a)
  have IN := Aside0.mk (Er.is_nil a)
  clear ha lt hB
  have HGc : Aside0 (∀ w', Below (w.alloc (.cells #[.int .i64 a0_0, .int .i64 a0_1] 38)).heap.size (w.alloc (.cells #[.int .i64 a0_0, .int .i64 a0_1] 38)) w' → w'.cell? ⟨0, 0, none⟩ = some (.iface 186 (.pointer (some a)))) := ⟨fun w' hb => (hb.cell (World.block_lt_of_cell? _ _ HG.out)).trans HG.out⟩
  by_cases c : a0_0 < 0 ∨ 99999 < a0_0 ∨ a0_1 < 1 ∨ 99999 < a0_1
  · have HR := Aside0.mk (show false = r by rw [if_pos c] at h; exact Option.some.inj h)
    have HC := Aside0.mk c
    clear h c
    go_enter Tryd.func19, Tryd.ntmps19
    go_wp2_with (first | (go_at_call 52; refine (impl_amountOf.bad a0_0 a0_1 a _ HG.out HC.out).mono ?_; rintro e w1 ⟨rfl, hb1⟩; have g0 := HGc.out _ hb1) | (go_at_call 53; refine (IS.out _).mono ?_; rintro e w2 ⟨rfl, rfl⟩))
    have HB1 := Aside0.mk (HB.out.trans (hb1.mono HB.out.size))
    clear hb1 g0
    go_ret
    exact ⟨by rw [← HR.out]; rfl, HB1.out⟩
  · rw [if_neg c] at h
    obtain ⟨q, hq, h⟩ := Option.bind_eq_some_iff.1 h
    have HR := Aside0.mk (Option.some.inj h)
    have HC := Aside0.mk c
    have HQ := Aside0.mk hq
    clear h c hq
    by_cases e1 : q = 1
    · subst e1
      go_enter Tryd.func19, Tryd.ntmps19
      go_wp2_with (first | (go_at_call 52; refine (impl_amountOf.good k a0_0 a0_1 1 a _ HG.out HC.out HQ.out).mono ?_; rintro e w1 ⟨⟨v, rfl⟩, hb1⟩; have g0 := HGc.out _ hb1) | (go_at_call 53; refine (IN.out _).mono ?_; rintro e w2 ⟨rfl, rfl⟩))
      have HB1 := Aside0.mk (HB.out.trans (hb1.mono HB.out.size))
      clear hb1 g0
      go_ret
      exact ⟨by rw [← HR.out]; rfl, HB1.out⟩
    · go_enter Tryd.func19, Tryd.ntmps19
      go_wp2_with (first | (go_at_call 52; refine (impl_amountOf.good k a0_0 a0_1 q a _ HG.out HC.out HQ.out).mono ?_; rw [if_neg e1]; rintro e w1 ⟨⟨v, rfl⟩, hb1⟩; have g0 := HGc.out _ hb1) | (go_at_call 53; refine (IS.out _).mono ?_; rintro e w2 ⟨rfl, rfl⟩))
      have HB1 := Aside0.mk (HB.out.trans (hb1.mono HB.out.size))
      clear hb1 g0
      go_ret
      exact ⟨by rw [← HR.out, decide_eq_false e1]; rfl, HB1.out⟩
end

end Go.Proofs.YtddbahlofgkoaaaDoor.PA
namespace Go.Proofs.YtddbahlofgkoaaaDoor.PA
open Go.RowKit Go.Proofs.YtddbahlofgkoaaaDoorW.PrintWords Go.Proofs.YtddbahlofgkoaaaDoorW.PrintLast Go.Proofs.YtddbahlofgkoaaaDoorW.PrintMore
attribute [local go_sem] max2_int min2_int max_two min_two max_three min_three max_four min_four   -- for this text's walks alone
set_option linter.unusedVariables false
set_option linter.unusedSimpArgs false

/-! ### spec_l6In: function 50 -/
def spec_l6In.f (a0 : Int) (a1 : Int) (a2 : Int) : Option (Bool) := if a0 ≥ a1 then (some (decide (a0 ≤ a2))) else (some false)
set_option maxHeartbeats 8000000 in
set_option maxRecDepth 100000 in
theorem spec_l6In.calls (a0 : Int) (a1 : Int) (a2 : Int) (r : Bool) (w : World) (h : spec_l6In.f a0 a1 a2 = some r) :
  Calls Tryd.prog 50 #[.int .i64 a0, .int .i64 a1, .int .i64 a2] w fun e w' => e = .returned (.bool r) ∧ Drawn0 w w' := by
 have H : (if a0 ≥ a1 then (some (decide (a0 ≤ a2))) else (some false)) = some r := h; clear h; by_cases c4 : a0 ≥ a1
 ·rw [if_pos c4] at H; have c4b0 : decide (a1 ≤ a0) = true := decide_eq_true c4; clear c4; obtain rfl := Option.some.inj H; go_enter Tryd.func50, Tryd.ntmps50
  go_wp2
  go_ret
  exact ⟨by first | rfl | (simp; done) | (simp [*]; done), by repeat (first | exact Drawn0.refl _ | apply Drawn0.step)⟩
 ·rw [if_neg c4] at H; have c4b0 : decide (a1 ≤ a0) = false := decide_eq_false c4; clear c4; obtain rfl := Option.some.inj H; go_enter Tryd.func50, Tryd.ntmps50
  go_wp2
  go_ret
  exact ⟨by first | rfl | (simp; done) | (simp [*]; done), by repeat (first | exact Drawn0.refl _ | apply Drawn0.step)⟩

/-! ### spec_l1Gcd: function 51 -/
def spec_l1Gcd.l0 : Nat → Int → Int → Option (Int)
 | 0, _, _ => none
 | k + 1, x0, x1 => if x1 > 0 then (if x1 = 0 then (none) else (spec_l1Gcd.l0 k x1 (Int.tmod x0 x1))) else (some x0)
def spec_l1Gcd.f (k : Nat) (a0 : Int) (a1 : Int) : Option (Int) := spec_l1Gcd.l0 k a0 a1
theorem spec_l1Gcd.mono_l : ∀ k, (∀ y0 y1, LeO (spec_l1Gcd.l0 k y0 y1) (spec_l1Gcd.l0 (k + 1) y0 y1))
 | 0 => fun _ _ r h => by simp [spec_l1Gcd.l0] at h
 | k + 1 => by
  have ih0 := spec_l1Gcd.mono_l k
  ·intro y0 y1; unfold spec_l1Gcd.l0; repeat' first
   | (with_reducible exact ih0 _ _)
   | (with_reducible exact LeO.refl _)
   | (with_reducible exact LeO.none _)
   | (with_reducible refine LeO.ite ?_ ?_)
   | (with_reducible refine LeO.bind ?_ (fun _ => ?_))
   | exact ih0 _ _
   | exact LeO.none _
   | refine LeO.ite ?_ ?_
   | refine LeO.bind ?_ (fun _ => ?_)
theorem spec_l1Gcd.mono : ∀ a0 a1 k, LeO (spec_l1Gcd.f k a0 a1) (spec_l1Gcd.f (k + 1) a0 a1) := by
 intro a0 a1 k; have ih0 := spec_l1Gcd.mono_l k; unfold spec_l1Gcd.f; repeat' first
   | (with_reducible exact ih0 _ _)
   | (with_reducible exact LeO.refl _)
   | (with_reducible exact LeO.none _)
   | (with_reducible refine LeO.ite ?_ ?_)
   | (with_reducible refine LeO.bind ?_ (fun _ => ?_))
   | exact ih0 _ _
   | exact LeO.none _
   | refine LeO.ite ?_ ?_
   | refine LeO.bind ?_ (fun _ => ?_)
set_option maxHeartbeats 8000000 in
set_option maxRecDepth 100000 in
theorem spec_l1Gcd.calls (k : Nat) (a0 : Int) (a1 : Int) (r : Int) (w : World) (h : spec_l1Gcd.f k a0 a1 = some r) :
  Calls Tryd.prog 51 #[.int .i64 a0, .int .i64 a1] w fun e w' => e = .returned (.int .i64 r) ∧ Drawn0 w w' := by
 have H : (spec_l1Gcd.l0 k a0 a1) = some r := h; clear h; have H' := Aside0.mk H; clear H; go_enter Tryd.func51, Tryd.ntmps51
 go_wp2
 repeat (go_quiet (fail); try go_wp2)
 go_loopg [0, 1] k (fun kq v0 v1 w' => ∃ (x0_1 : Int) (x1_1 : Int), v0 = .int .i64 x0_1 ∧ v1 = .int .i64 x1_1 ∧ Aside0 (spec_l1Gcd.l0 kq x0_1 x1_1 = some r) ∧ Aside0 (kq ≤ k) ∧ Drawn0 w w')
 case atStart => exact ⟨(a0), (a1), (by first | rfl | (simp; done) | (simp [*]; done)), (by first | rfl | (simp; done) | (simp [*]; done)), H', ⟨Nat.le_refl _⟩, by repeat (first | exact Drawn0.refl _ | apply Drawn0.step)⟩
 case round =>
  clear H'; try clear p2
  obtain ⟨x0_1, x1_1, rfl, rfl, HA, HK1, ⟨m1, rfl⟩⟩ := hrel; cases gk with
  | zero => exact absurd HA.out (by simp [spec_l1Gcd.l0])
  | succ k1 =>
   have H := HA.out; clear HA; simp only [spec_l1Gcd.l0] at H; by_cases c3 : x1_1 > 0
   ·rw [if_pos c3] at H; have c3b0 : decide (0 < x1_1) = true := decide_eq_true c3; clear c3; by_cases c4 : x1_1 = 0
    ·rw [if_pos c4] at H; exact absurd H (by simp)
    ·rw [if_neg c4] at H; have c4b0 : (x1_1 == 0) = false := beq_eq_false_iff_ne.mpr c4; have c4b1 : (x1_1 != 0) = true := bne_iff_ne.mpr c4; have H' := Aside0.mk H; clear H; go_wp2
     repeat (go_quiet (fail); try go_wp2)
     go_roundg k1
     case measure => have := HK1.out; omega
     case rel => exact ⟨(x1_1), (Int.tmod x0_1 x1_1), (by first | rfl | (simp; done) | (simp [*]; done)), (by first | rfl | (simp; done) | (simp [*]; done)), H', ⟨by have := HK1.out; omega⟩, by repeat (first | exact Drawn0.refl _ | apply Drawn0.step)⟩
   ·rw [if_neg c3] at H; have c3b0 : decide (0 < x1_1) = false := decide_eq_false c3; clear c3; obtain rfl := Option.some.inj H; go_wp2
    repeat (go_quiet (fail); try go_wp2)
    go_ret
    exact ⟨by first | rfl | (simp; done) | (simp [*]; done), by repeat (first | exact Drawn0.refl _ | apply Drawn0.step)⟩

end Go.Proofs.YtddbahlofgkoaaaDoor.PA
namespace Go.Proofs.YtddbahlofgkoaaaDoor.PA
open Go.RowKit Go.Proofs.YtddbahlofgkoaaaDoorW.PrintWords Go.Proofs.YtddbahlofgkoaaaDoorW.PrintLast Go.Proofs.YtddbahlofgkoaaaDoorW.PrintMore
attribute [local go_sem] max2_int min2_int max_two min_two max_three min_three max_four min_four   -- for this text's walks alone
set_option linter.unusedVariables false
set_option linter.unusedSimpArgs false

/-! ### spec_l1Of: function 60 -/
def spec_l1Of.f (k : Nat) (a0 : Int) (a1 : Int) : Option (Int × Int) := (spec_l1Gcd.f k a0 a1).bind fun t133 => (if t133 = 0 then (none) else (some (wrap64 (Int.tdiv a0 t133), wrap64 (Int.tdiv a1 t133))))
theorem spec_l1Of.mono : ∀ a0 a1 k, LeO (spec_l1Of.f k a0 a1) (spec_l1Of.f (k + 1) a0 a1) := by
 intro a0 a1 k; unfold spec_l1Of.f; repeat' first
   | (with_reducible exact spec_l1Gcd.mono _ _ _)
   | (with_reducible exact LeO.refl _)
   | (with_reducible exact LeO.none _)
   | (with_reducible refine LeO.ite ?_ ?_)
   | (with_reducible refine LeO.bind ?_ (fun _ => ?_))
   | exact spec_l1Gcd.mono _ _ _
   | exact LeO.none _
   | refine LeO.ite ?_ ?_
   | refine LeO.bind ?_ (fun _ => ?_)
def spec_l1Of.T2 : Bool × List (List Nat × List Nat) := (true, [([], []), ([], []), ([0, 1], [0, 1]), ([], []), ([], []), ([3, 4], [3, 4]), ([2, 5], [2, 5]), ([6, 0, 1, 2, 3, 4, 5, 6], [6])])
def spec_l1Of.B2 : List Nat := [0, 0, 3, 0, 0, 24, 63, 127]
theorem spec_l1Of.tab2 : rtab .any (opsOf Tryd.f60 2) = spec_l1Of.T2 := by kernel_rfl
theorem spec_l1Of.bits2 : waitsOk spec_l1Of.T2.2 spec_l1Of.B2 = true := by kernel_rfl
set_option maxHeartbeats 8000000 in
set_option maxRecDepth 100000 in
theorem spec_l1Of.calls (k : Nat) (a0 : Int) (a1 : Int) (r1 : Int) (r2 : Int) (w : World) (h : spec_l1Of.f k a0 a1 = some (r1, r2)) :
  Calls Tryd.prog 60 #[.int .i64 a0, .int .i64 a1] w fun e w' => e = .returned (.agg #[.int .i64 r1, .int .i64 r2]) ∧ Below w.heap.size w w' := by
 have hu38 := Tryd.underlying38; have HB := Aside0.mk (Below.refl w.heap.size w); have H : ((spec_l1Gcd.f k a0 a1).bind fun t133 => (if t133 = 0 then (none) else (some (wrap64 (Int.tdiv a0 t133), wrap64 (Int.tdiv a1 t133))))) = some (r1, r2) := h; clear h; replace H := Option.bind_eq_some_iff.mp H; obtain ⟨t133, A30, H⟩ := H; replace H : (if t133 = 0 then (none) else (some (wrap64 (Int.tdiv a0 t133), wrap64 (Int.tdiv a1 t133)))) = some (r1, r2) := H; have A3 := Aside0.mk A30; clear A30; by_cases c4 : t133 = 0
 ·rw [if_pos c4] at H; exact absurd H (by simp)
 ·rw [if_neg c4] at H; have c4b0 : (t133 == 0) = false := beq_eq_false_iff_ne.mpr c4; have c4b1 : (t133 != 0) = true := bne_iff_ne.mpr c4; simp only [Option.some.injEq, Prod.mk.injEq] at H; obtain ⟨rfl, rfl⟩ := H; go_enter Tryd.func60, Tryd.ntmps60
  try go_wp2_with (first | ((with_reducible refine gate_dst (N := 4) rfl ?_); refine box_event ?hg (N := 4) ?hd (cs := #[.int .i64 0, .int .i64 0]) (t := 38) ?hr ?_; (case hd => rfl); (case hg => rfl); (case hr => first | (go_simp; done) | (go_simp; rfl)); intro gb132 hg w5 hbox hb; have n0_ := Aside0.mk (below_step (by repeat (first | (with_reducible first | exact HB.out | apply below_alloc | apply pw_below_drewN | apply below_drew1) | exact HB.out)) hb); have n1_ := Aside0.mk (hbox); have n2_ := Aside0.mk ((by rw [hg]; exact (below_size (by repeat (first | (with_reducible first | exact HB.out | apply below_alloc | apply pw_below_drewN | apply below_drew1) | exact HB.out))) : w.heap.size ≤ gb132)); have n3_ := Aside0.mk ((by rw [hg]; exact (below_size (by repeat (first | (with_reducible first | exact HB.out | apply below_alloc | apply pw_below_drewN | apply below_drew1) | exact HB.out))) : w.heap.size ≤ gb132)); clear HB; have HB := n0_; have BK132 := n1_; have GW132 := n2_; have GE132 := n3_; clear n0_ n1_ n2_ n3_; clear hb hbox hg) | ((with_reducible refine gate_callee (f := 51) rfl ?_); refine goesL_ (some 8) rfl rfl Tryd.func51 (by kernel_rfl) rfl #[.int .i64 a0, .int .i64 a1] rfl (by (try simp only [List.map_toArray, List.map_cons, List.map_nil]); first | done | rfl | (simp only [List.length_drop, List.length_take]; rfl)) ?_; (with_reducible refine (spec_l1Gcd.calls k a0 a1 t133 _ A3.out).mono ?_); rintro e w' ⟨rfl, ⟨nd, rfl⟩⟩; refine ⟨_, rfl, ?_⟩; (try (rw [drewN_self w5]; generalize hq_ : World.drewN w5 _ = w5; have n0_ : Aside0 (w5.heap[gb132]? = some (.cells #[.int .i64 0, .int .i64 0] 38 (0, 0))) := ⟨by rw [← hq_]; exact (by (with_reducible repeat (first | refine blk_drewN ?_ _ | refine blk_drew ?_ | refine blk_alloc ?_ _)); exact BK132.out)⟩; have n1_ : Aside0 (Below w.heap.size w w5) := ⟨by rw [← hq_]; exact (by repeat (first | (with_reducible first | exact HB.out | apply below_alloc | apply pw_below_drewN | apply below_drew1 | refine below_set ?_ GE132.out) | exact HB.out))⟩; clear BK132 HB hq_; have BK132 := n0_; have HB := n1_; clear n0_ n1_))))
  have n0_ := Aside0.mk (blk_drew BK132.out); have n1_ := Aside0.mk (below_drew1 HB.out); clear BK132; clear HB; have BK132 := n0_; have HB := n1_; clear n0_ n1_; refine start_ (n := 8) (S := fun w' => True) (ds := []) #[false, false, false, false, false, false, false, false] (by kernel_rfl) rfl rfl trivial (fun hHeld => ?_); refine with_tabW spec_l1Of.tab2 spec_l1Of.bits2 (fun HT_ HW_ => ?_)
  generalize w5.drew = w6 at BK132 HB hHeld ⊢
  refine pu_ HT_.out 0 9 {} ?_; refine pu_ HT_.out 1 10 {} ?_; refine pu_ HT_.out 2 11 {} ?_; refine pu_ HT_.out 3 12 {} ?_; refine pu_ HT_.out 4 13 {} ?_; refine pu_ HT_.out 5 14 {} ?_; refine pu_ HT_.out 6 15 {} ?_
  refine one_ (i := 7) (N := none) #[true, true, true, true, true, true, true, true] rfl rfl (one_of HT_.out (by kernel_rfl)) (by decide) (fun K hK => ?_); have hs7 : w6.cell? ⟨gb132, 0, none⟩ = some (.int .i64 0) := (blk_cell BK132.out 0).trans rfl; have hfs7 := blk_frozen BK132.out 0; have hs8 : w6.cell? ⟨gb132, 1, none⟩ = some (.int .i64 0) := (blk_cell BK132.out 1).trans rfl; have hfs8 := blk_frozen BK132.out 1; refine skip_ (w1 := ?_) (by rfl) rfl ?_ ?_; rotate_left; ·go_simp; rfl
  refine hK.out _ _ trivial (fun hHeld => ?_); clear hK K; refine done_ (done_of HT_.out (by kernel_rfl)) ?_; try go_wp2
  refine bodyPost_ret (results_cell_row rfl _ _ gb132 38 #[.int .i64 (wrap64 (Int.tdiv a0 t133)), .int .i64 (wrap64 (Int.tdiv a1 t133))] (0, 0) _ rfl (by (with_reducible repeat (first | refine blk_drewN ?_ _ | refine blk_drew ?_ | refine blk_alloc ?_ _)); refine blk_put (cs := #[.int .i64 (wrap64 (Int.tdiv a0 t133)), .int .i64 0]) ?_ 1 _ rfl; (with_reducible repeat (first | refine blk_drewN ?_ _ | refine blk_drew ?_ | refine blk_alloc ?_ _)); refine blk_put (cs := #[.int .i64 0, .int .i64 0]) ?_ 0 _ rfl; (with_reducible repeat (first | refine blk_drewN ?_ _ | refine blk_drew ?_ | refine blk_alloc ?_ _)); exact BK132.out) Tryd.underlying38 rfl (by kernel_rfl)) rfl ?_; exact ⟨by first | rfl | (simp [errW_none, errW_some] <;> rfl) | (simp [*, errW_none, errW_some] <;> rfl), by repeat (first | (with_reducible first | exact HB.out | apply below_alloc | apply pw_below_drewN | apply below_drew1 | refine below_set ?_ GE132.out) | exact HB.out)⟩

end Go.Proofs.YtddbahlofgkoaaaDoor.PA
namespace Go.Proofs.YtddbahlofgkoaaaDoor.PA
open Go.RowKit Go.Proofs.YtddbahlofgkoaaaDoorW.PrintWords Go.Proofs.YtddbahlofgkoaaaDoorW.PrintLast Go.Proofs.YtddbahlofgkoaaaDoorW.PrintMore
attribute [local go_sem] max2_int min2_int max_two min_two max_three min_three max_four min_four   -- for this text's walks alone
set_option linter.unusedVariables false
set_option linter.unusedSimpArgs false

/-! ### spec_FracOf: function 26 -/
def spec_FracOf.f (k : Nat) (a0 : Int) (a1 : Int) : Option (Int × Int × Bool) := (spec_l6In.f a0 0 99999).bind fun t135 => (if t135 = true then ((spec_l6In.f a1 1 99999).bind fun t136 => (if t136 = true then ((spec_l1Of.f k a0 a1).bind fun bt137 => (some (bt137.1, bt137.2, true))) else (some (0, 0, false)))) else (some (0, 0, false)))
theorem spec_FracOf.mono : ∀ a0 a1 k, LeO (spec_FracOf.f k a0 a1) (spec_FracOf.f (k + 1) a0 a1) := by
 intro a0 a1 k; unfold spec_FracOf.f; repeat' first
   | (with_reducible exact spec_l1Of.mono _ _ _)
   | (with_reducible exact LeO.refl _)
   | (with_reducible exact LeO.none _)
   | (with_reducible refine LeO.ite ?_ ?_)
   | (with_reducible refine LeO.bind ?_ (fun _ => ?_))
   | exact spec_l1Of.mono _ _ _
   | exact LeO.none _
   | refine LeO.ite ?_ ?_
   | refine LeO.bind ?_ (fun _ => ?_)
set_option maxHeartbeats 8000000 in
set_option maxRecDepth 100000 in
theorem spec_FracOf.calls (k : Nat) (a0 : Int) (a1 : Int) (r1 : Int) (r2 : Int) (r3 : Bool) (w : World) (h : spec_FracOf.f k a0 a1 = some (r1, r2, r3)) :
  Calls Tryd.prog 26 #[.int .i64 a0, .int .i64 a1] w fun e w' => e = .returned (.tuple #[.agg #[.int .i64 r1, .int .i64 r2], .bool r3]) ∧ Below w.heap.size w w' := by
 have hu38 := Tryd.underlying38; have HB := Aside0.mk (Below.refl w.heap.size w); have H : ((spec_l6In.f a0 0 99999).bind fun t135 => (if t135 = true then ((spec_l6In.f a1 1 99999).bind fun t136 => (if t136 = true then ((spec_l1Of.f k a0 a1).bind fun bt137 => (some (bt137.1, bt137.2, true))) else (some (0, 0, false)))) else (some (0, 0, false)))) = some (r1, r2, r3) := h; clear h; replace H := Option.bind_eq_some_iff.mp H; obtain ⟨t135, A30, H⟩ := H; replace H : (if t135 = true then ((spec_l6In.f a1 1 99999).bind fun t136 => (if t136 = true then ((spec_l1Of.f k a0 a1).bind fun bt137 => (some (bt137.1, bt137.2, true))) else (some (0, 0, false)))) else (some (0, 0, false))) = some (r1, r2, r3) := H; have A3 := Aside0.mk A30; clear A30; by_cases c4 : t135 = true
 ·subst c4; have H1 : ((spec_l6In.f a1 1 99999).bind fun t136 => (if t136 = true then ((spec_l1Of.f k a0 a1).bind fun bt137 => (some (bt137.1, bt137.2, true))) else (some (0, 0, false)))) = some (r1, r2, r3) := by rw [if_pos rfl] at H; exact H
  clear H; have H := H1; clear H1; replace H := Option.bind_eq_some_iff.mp H; obtain ⟨t136, A50, H⟩ := H; replace H : (if t136 = true then ((spec_l1Of.f k a0 a1).bind fun bt137 => (some (bt137.1, bt137.2, true))) else (some (0, 0, false))) = some (r1, r2, r3) := H; have A5 := Aside0.mk A50; clear A50; by_cases c6 : t136 = true
  ·subst c6; have H1 : ((spec_l1Of.f k a0 a1).bind fun bt137 => (some (bt137.1, bt137.2, true))) = some (r1, r2, r3) := by rw [if_pos rfl] at H; exact H
   clear H; have H := H1; clear H1; replace H := Option.bind_eq_some_iff.mp H; obtain ⟨⟨t137, t138⟩, A70, H⟩ := H; replace H : (some (t137, t138, true)) = some (r1, r2, r3) := H; have A7 := Aside0.mk A70; clear A70; simp only [Option.some.injEq, Prod.mk.injEq] at H; obtain ⟨rfl, rfl, rfl⟩ := H; go_enter Tryd.func26, Tryd.ntmps26
   go_wp2_with (first | ((with_reducible refine gate_dst (N := 4) rfl ?_); refine box_event ?hg (N := 4) ?hd (cs := #[.int .i64 0, .int .i64 0]) (t := 38) ?hr ?_; (case hd => rfl); (case hg => rfl); (case hr => first | (go_simp; done) | (go_simp; rfl)); intro gb134 hg w8 hbox hb; have n0_ := Aside0.mk (below_step (by repeat (first | (with_reducible first | exact HB.out | apply below_alloc | apply pw_below_drewN | apply below_drew1) | exact HB.out)) hb); have n1_ := Aside0.mk (hbox); have n2_ := Aside0.mk ((by rw [hg]; exact (below_size (by repeat (first | (with_reducible first | exact HB.out | apply below_alloc | apply pw_below_drewN | apply below_drew1) | exact HB.out))) : w.heap.size ≤ gb134)); have n3_ := Aside0.mk ((by rw [hg]; exact (below_size (by repeat (first | (with_reducible first | exact HB.out | apply below_alloc | apply pw_below_drewN | apply below_drew1) | exact HB.out))) : w.heap.size ≤ gb134)); clear HB; have HB := n0_; have BK134 := n1_; have GW134 := n2_; have GE134 := n3_; clear n0_ n1_ n2_ n3_; clear hb hbox hg) | ((with_reducible refine gate_callee (f := 50) rfl ?_); refine goesL_ (some 7) rfl rfl Tryd.func50 (by kernel_rfl) rfl #[.int .i64 a0, .int .i64 0, .int .i64 99999] rfl (by (try simp only [List.map_toArray, List.map_cons, List.map_nil]); first | done | rfl | (simp only [List.length_drop, List.length_take]; rfl)) ?_; (with_reducible refine (spec_l6In.calls a0 0 99999 true _ A3.out).mono ?_); rintro e w' ⟨rfl, ⟨nd, rfl⟩⟩; refine ⟨_, rfl, ?_⟩; (try (rw [drewN_self w8]; generalize hq_ : World.drewN w8 _ = w8; have n0_ : Aside0 (w8.heap[gb134]? = some (.cells #[.int .i64 0, .int .i64 0] 38 (0, 0))) := ⟨by rw [← hq_]; exact (by (with_reducible repeat (first | refine blk_drewN ?_ _ | refine blk_drew ?_ | refine blk_alloc ?_ _)); exact BK134.out)⟩; have n1_ : Aside0 (Below w.heap.size w w8) := ⟨by rw [← hq_]; exact (by repeat (first | (with_reducible first | exact HB.out | apply below_alloc | apply pw_below_drewN | apply below_drew1 | refine below_set ?_ GE134.out) | exact HB.out))⟩; clear BK134 HB hq_; have BK134 := n0_; have HB := n1_; clear n0_ n1_))) | (go_at_call 50; (with_reducible refine (spec_l6In.calls a1 1 99999 true _ A5.out).mono ?_); rintro e w' ⟨rfl, ⟨nd, rfl⟩⟩; (try (rw [drewN_self w8]; generalize hq_ : World.drewN w8 _ = w8; have n0_ : Aside0 (w8.heap[gb134]? = some (.cells #[.int .i64 0, .int .i64 0] 38 (0, 0))) := ⟨by rw [← hq_]; exact (by (with_reducible repeat (first | refine blk_drewN ?_ _ | refine blk_drew ?_ | refine blk_alloc ?_ _)); exact BK134.out)⟩; have n1_ : Aside0 (Below w.heap.size w w8) := ⟨by rw [← hq_]; exact (by repeat (first | (with_reducible first | exact HB.out | apply below_alloc | apply pw_below_drewN | apply below_drew1 | refine below_set ?_ GE134.out) | exact HB.out))⟩; clear BK134 HB hq_; have BK134 := n0_; have HB := n1_; clear n0_ n1_))) | ((with_reducible refine gate_callee (f := 60) rfl ?_); refine goesL_ (some 17) rfl rfl Tryd.func60 (by kernel_rfl) rfl #[.int .i64 a0, .int .i64 a1] rfl (by (try simp only [List.map_toArray, List.map_cons, List.map_nil]); first | done | rfl | (simp only [List.length_drop, List.length_take]; rfl)) ?_; (with_reducible refine (spec_l1Of.calls k a0 a1 t137 t138 _ A7.out).mono ?_); rintro e w9 ⟨rfl, hb⟩; refine ⟨_, rfl, ?_⟩; have n0_ := Aside0.mk (blk_below (g := gb134) (o := .cells #[.int .i64 0, .int .i64 0] 38 (0, 0)) (by (with_reducible repeat (first | refine blk_drewN ?_ _ | refine blk_drew ?_ | refine blk_alloc ?_ _)); exact BK134.out) hb); have n1_ := Aside0.mk (below_step (by repeat (first | (with_reducible first | exact HB.out | apply below_alloc | apply pw_below_drewN | apply below_drew1 | refine below_set ?_ GE134.out) | exact HB.out)) hb); clear BK134; clear HB; have BK134 := n0_; have HB := n1_; clear n0_ n1_; (try clear hb); (try clear hb2); (try clear hk); (try clear hi); have hcz10_0 : w9.cell? ⟨gb134, 0, none⟩ = some (.int .i64 0) := (blk_cell BK134.out 0).trans rfl; have hcz10_1 : w9.cell? ⟨gb134, 1, none⟩ = some (.int .i64 0) := (blk_cell BK134.out 1).trans rfl; have hfz10_0 := blk_frozen BK134.out 0; have hfz10_1 := blk_frozen BK134.out 1))
   refine bodyPost_ret (results_ct rfl _ _ gb134 38 #[.int .i64 t137, .int .i64 t138] (0, 0) _ rfl (by (with_reducible repeat (first | refine blk_drewN ?_ _ | refine blk_drew ?_ | refine blk_alloc ?_ _)); refine blk_put (cs := #[.int .i64 t137, .int .i64 0]) ?_ 1 _ rfl; (with_reducible repeat (first | refine blk_drewN ?_ _ | refine blk_drew ?_ | refine blk_alloc ?_ _)); refine blk_put (cs := #[.int .i64 0, .int .i64 0]) ?_ 0 _ rfl; (with_reducible repeat (first | refine blk_drewN ?_ _ | refine blk_drew ?_ | refine blk_alloc ?_ _)); exact BK134.out) Tryd.underlying38 rfl (by kernel_rfl)) rfl ?_; exact ⟨by first | rfl | (simp [errW_none, errW_some] <;> rfl) | (simp [*, errW_none, errW_some] <;> rfl), by repeat (first | (with_reducible first | exact HB.out | apply below_alloc | apply pw_below_drewN | apply below_drew1 | refine below_set ?_ GE134.out) | exact HB.out)⟩
  ·replace c6 := Bool.eq_false_iff.mpr c6; subst c6; have H1 : (some (0, 0, false)) = some (r1, r2, r3) := by rw [if_neg (show ¬ (false = true) by decide)] at H; exact H
   clear H; have H := H1; clear H1; simp only [Option.some.injEq, Prod.mk.injEq] at H; obtain ⟨rfl, rfl, rfl⟩ := H; go_enter Tryd.func26, Tryd.ntmps26
   go_wp2_with (first | ((with_reducible refine gate_dst (N := 4) rfl ?_); refine box_event ?hg (N := 4) ?hd (cs := #[.int .i64 0, .int .i64 0]) (t := 38) ?hr ?_; (case hd => rfl); (case hg => rfl); (case hr => first | (go_simp; done) | (go_simp; rfl)); intro gb134 hg w11 hbox hb; have n0_ := Aside0.mk (below_step (by repeat (first | (with_reducible first | exact HB.out | apply below_alloc | apply pw_below_drewN | apply below_drew1) | exact HB.out)) hb); have n1_ := Aside0.mk (hbox); have n2_ := Aside0.mk ((by rw [hg]; exact (below_size (by repeat (first | (with_reducible first | exact HB.out | apply below_alloc | apply pw_below_drewN | apply below_drew1) | exact HB.out))) : w.heap.size ≤ gb134)); have n3_ := Aside0.mk ((by rw [hg]; exact (below_size (by repeat (first | (with_reducible first | exact HB.out | apply below_alloc | apply pw_below_drewN | apply below_drew1) | exact HB.out))) : w.heap.size ≤ gb134)); clear HB; have HB := n0_; have BK134 := n1_; have GW134 := n2_; have GE134 := n3_; clear n0_ n1_ n2_ n3_; clear hb hbox hg) | ((with_reducible refine gate_callee (f := 50) rfl ?_); refine goesL_ (some 7) rfl rfl Tryd.func50 (by kernel_rfl) rfl #[.int .i64 a0, .int .i64 0, .int .i64 99999] rfl (by (try simp only [List.map_toArray, List.map_cons, List.map_nil]); first | done | rfl | (simp only [List.length_drop, List.length_take]; rfl)) ?_; (with_reducible refine (spec_l6In.calls a0 0 99999 true _ A3.out).mono ?_); rintro e w' ⟨rfl, ⟨nd, rfl⟩⟩; refine ⟨_, rfl, ?_⟩; (try (rw [drewN_self w11]; generalize hq_ : World.drewN w11 _ = w11; have n0_ : Aside0 (w11.heap[gb134]? = some (.cells #[.int .i64 0, .int .i64 0] 38 (0, 0))) := ⟨by rw [← hq_]; exact (by (with_reducible repeat (first | refine blk_drewN ?_ _ | refine blk_drew ?_ | refine blk_alloc ?_ _)); exact BK134.out)⟩; have n1_ : Aside0 (Below w.heap.size w w11) := ⟨by rw [← hq_]; exact (by repeat (first | (with_reducible first | exact HB.out | apply below_alloc | apply pw_below_drewN | apply below_drew1 | refine below_set ?_ GE134.out) | exact HB.out))⟩; clear BK134 HB hq_; have BK134 := n0_; have HB := n1_; clear n0_ n1_))) | (go_at_call 50; (with_reducible refine (spec_l6In.calls a1 1 99999 false _ A5.out).mono ?_); rintro e w' ⟨rfl, ⟨nd, rfl⟩⟩; (try (rw [drewN_self w11]; generalize hq_ : World.drewN w11 _ = w11; have n0_ : Aside0 (w11.heap[gb134]? = some (.cells #[.int .i64 0, .int .i64 0] 38 (0, 0))) := ⟨by rw [← hq_]; exact (by (with_reducible repeat (first | refine blk_drewN ?_ _ | refine blk_drew ?_ | refine blk_alloc ?_ _)); exact BK134.out)⟩; have n1_ : Aside0 (Below w.heap.size w w11) := ⟨by rw [← hq_]; exact (by repeat (first | (with_reducible first | exact HB.out | apply below_alloc | apply pw_below_drewN | apply below_drew1 | refine below_set ?_ GE134.out) | exact HB.out))⟩; clear BK134 HB hq_; have BK134 := n0_; have HB := n1_; clear n0_ n1_)); have hcz12_0 : w11.cell? ⟨gb134, 0, none⟩ = some (.int .i64 0) := (blk_cell BK134.out 0).trans rfl; have hcz12_1 : w11.cell? ⟨gb134, 1, none⟩ = some (.int .i64 0) := (blk_cell BK134.out 1).trans rfl; have hfz12_0 := blk_frozen BK134.out 0; have hfz12_1 := blk_frozen BK134.out 1))
   refine bodyPost_ret (results_ct rfl _ _ gb134 38 #[.int .i64 0, .int .i64 0] (0, 0) _ rfl (by (with_reducible repeat (first | refine blk_drewN ?_ _ | refine blk_drew ?_ | refine blk_alloc ?_ _)); refine blk_put (cs := #[.int .i64 0, .int .i64 0]) ?_ 1 _ rfl; (with_reducible repeat (first | refine blk_drewN ?_ _ | refine blk_drew ?_ | refine blk_alloc ?_ _)); refine blk_put (cs := #[.int .i64 0, .int .i64 0]) ?_ 0 _ rfl; (with_reducible repeat (first | refine blk_drewN ?_ _ | refine blk_drew ?_ | refine blk_alloc ?_ _)); exact BK134.out) Tryd.underlying38 rfl (by kernel_rfl)) rfl ?_; exact ⟨by first | rfl | (simp [errW_none, errW_some] <;> rfl) | (simp [*, errW_none, errW_some] <;> rfl), by repeat (first | (with_reducible first | exact HB.out | apply below_alloc | apply pw_below_drewN | apply below_drew1 | refine below_set ?_ GE134.out) | exact HB.out)⟩
 ·replace c4 := Bool.eq_false_iff.mpr c4; subst c4; have H1 : (some (0, 0, false)) = some (r1, r2, r3) := by rw [if_neg (show ¬ (false = true) by decide)] at H; exact H
  clear H; have H := H1; clear H1; simp only [Option.some.injEq, Prod.mk.injEq] at H; obtain ⟨rfl, rfl, rfl⟩ := H; go_enter Tryd.func26, Tryd.ntmps26
  go_wp2_with (first | ((with_reducible refine gate_dst (N := 4) rfl ?_); refine box_event ?hg (N := 4) ?hd (cs := #[.int .i64 0, .int .i64 0]) (t := 38) ?hr ?_; (case hd => rfl); (case hg => rfl); (case hr => first | (go_simp; done) | (go_simp; rfl)); intro gb134 hg w13 hbox hb; have n0_ := Aside0.mk (below_step (by repeat (first | (with_reducible first | exact HB.out | apply below_alloc | apply pw_below_drewN | apply below_drew1) | exact HB.out)) hb); have n1_ := Aside0.mk (hbox); have n2_ := Aside0.mk ((by rw [hg]; exact (below_size (by repeat (first | (with_reducible first | exact HB.out | apply below_alloc | apply pw_below_drewN | apply below_drew1) | exact HB.out))) : w.heap.size ≤ gb134)); have n3_ := Aside0.mk ((by rw [hg]; exact (below_size (by repeat (first | (with_reducible first | exact HB.out | apply below_alloc | apply pw_below_drewN | apply below_drew1) | exact HB.out))) : w.heap.size ≤ gb134)); clear HB; have HB := n0_; have BK134 := n1_; have GW134 := n2_; have GE134 := n3_; clear n0_ n1_ n2_ n3_; clear hb hbox hg) | ((with_reducible refine gate_callee (f := 50) rfl ?_); refine goesL_ (some 7) rfl rfl Tryd.func50 (by kernel_rfl) rfl #[.int .i64 a0, .int .i64 0, .int .i64 99999] rfl (by (try simp only [List.map_toArray, List.map_cons, List.map_nil]); first | done | rfl | (simp only [List.length_drop, List.length_take]; rfl)) ?_; (with_reducible refine (spec_l6In.calls a0 0 99999 false _ A3.out).mono ?_); rintro e w' ⟨rfl, ⟨nd, rfl⟩⟩; refine ⟨_, rfl, ?_⟩; (try (rw [drewN_self w13]; generalize hq_ : World.drewN w13 _ = w13; have n0_ : Aside0 (w13.heap[gb134]? = some (.cells #[.int .i64 0, .int .i64 0] 38 (0, 0))) := ⟨by rw [← hq_]; exact (by (with_reducible repeat (first | refine blk_drewN ?_ _ | refine blk_drew ?_ | refine blk_alloc ?_ _)); exact BK134.out)⟩; have n1_ : Aside0 (Below w.heap.size w w13) := ⟨by rw [← hq_]; exact (by repeat (first | (with_reducible first | exact HB.out | apply below_alloc | apply pw_below_drewN | apply below_drew1 | refine below_set ?_ GE134.out) | exact HB.out))⟩; clear BK134 HB hq_; have BK134 := n0_; have HB := n1_; clear n0_ n1_)); have hcz14_0 : w13.cell? ⟨gb134, 0, none⟩ = some (.int .i64 0) := (blk_cell BK134.out 0).trans rfl; have hcz14_1 : w13.cell? ⟨gb134, 1, none⟩ = some (.int .i64 0) := (blk_cell BK134.out 1).trans rfl; have hfz14_0 := blk_frozen BK134.out 0; have hfz14_1 := blk_frozen BK134.out 1))
  refine bodyPost_ret (results_ct rfl _ _ gb134 38 #[.int .i64 0, .int .i64 0] (0, 0) _ rfl (by (with_reducible repeat (first | refine blk_drewN ?_ _ | refine blk_drew ?_ | refine blk_alloc ?_ _)); refine blk_put (cs := #[.int .i64 0, .int .i64 0]) ?_ 1 _ rfl; (with_reducible repeat (first | refine blk_drewN ?_ _ | refine blk_drew ?_ | refine blk_alloc ?_ _)); refine blk_put (cs := #[.int .i64 0, .int .i64 0]) ?_ 0 _ rfl; (with_reducible repeat (first | refine blk_drewN ?_ _ | refine blk_drew ?_ | refine blk_alloc ?_ _)); exact BK134.out) Tryd.underlying38 rfl (by kernel_rfl)) rfl ?_; exact ⟨by first | rfl | (simp [errW_none, errW_some] <;> rfl) | (simp [*, errW_none, errW_some] <;> rfl), by repeat (first | (with_reducible first | exact HB.out | apply below_alloc | apply pw_below_drewN | apply below_drew1 | refine below_set ?_ GE134.out) | exact HB.out)⟩

end Go.Proofs.YtddbahlofgkoaaaDoor.PA
namespace Go.Proofs.YtddbahlofgkoaaaDoor.PA
open Go.RowKit Go.Proofs.YtddbahlofgkoaaaDoorW.PrintWords Go.Proofs.YtddbahlofgkoaaaDoorW.PrintLast Go.Proofs.YtddbahlofgkoaaaDoorW.PrintMore
attribute [local go_sem] max2_int min2_int max_two min_two max_three min_three max_four min_four   -- for this text's walks alone
set_option linter.unusedVariables false
set_option linter.unusedSimpArgs false

/-- A state of type 129 at block g of W; what its slices lead to came in by w0. -/
def IsS129 (w0 W : World) (g : Nat) (f0 : List Int) (f1 : Int) : Prop := ∃ A0 c0, W.heap[g]? = some (.cells #[.slice A0 f0.length c0, .int .i64 f1] 129 (0, 0)) ∧ w0.heap.size ≤ g ∧ Kd.C (Kd.int .u8) w0 A0 f0.length f0
theorem IsS129.grown {w0 W : World} {g : Nat} {f0 : List Int} {f1 : Int} {W1 : World} {row : Option Nat} (h : IsS129 w0 W g f0 f1) (hw : W.grownBy W1 row) (hne : some g ≠ row) : IsS129 w0 W1 g f0 f1 := by
 obtain ⟨A0, c0, hb, hg, hr0⟩ := h; exact ⟨A0, c0, blk_grown hb hw hne, hg, hr0⟩
theorem IsS129.own_neN {w0 W : World} {g : Nat} {f0 : List Int} {f1 : Int} {α : Type} {d : Kd α} {e : Nat} {base : Nat} {ok : Nat → Prop} {v : Value} {xs : List α} (h : IsS129 w0 W g f0 f1) (ho : Kd.N d e W base ok v xs) (ht : e ≠ 129) : some g ≠ v.ownBlock := by
 obtain ⟨A0, c0, hb, hg, hr0⟩ := h; exact Kd.N_ne ho hb ht
theorem IsS129.fresh {w0 W : World} {g : Nat} {f0 : List Int} {f1 : Int} (h : IsS129 w0 W g f0 f1) : ∀ k, W.heap.size ≤ k → k ≠ g := by
 obtain ⟨A0, c0, hb, hg, hr0⟩ := h; exact Kd.freshB hb
theorem IsS129.kept {w0 W : World} {g : Nat} {f0 : List Int} {f1 : Int} {W1 : World} {S : Nat → Prop} (h : IsS129 w0 W g f0 f1) (hk : Kept W W1 S) (hne : ¬ S g) : IsS129 w0 W1 g f0 f1 := by
 obtain ⟨A0, c0, hb, hg, hr0⟩ := h; exact ⟨A0, c0, blk_kept hb hk hne, hg, hr0⟩
theorem IsS129.below {w0 W : World} {g : Nat} {f0 : List Int} {f1 : Int} {W1 : World} (h : IsS129 w0 W g f0 f1) (hw : Below W.heap.size W W1) : IsS129 w0 W1 g f0 f1 := h.grown (grown_of_below hw none) (by simp)
theorem IsS129.alloc {w0 W : World} {g : Nat} {f0 : List Int} {f1 : Int} (h : IsS129 w0 W g f0 f1) (o : Obj) : IsS129 w0 (W.alloc o) g f0 f1 := h.below (below_alloc (Below.refl _ _) o)
theorem IsS129.drewN {w0 W : World} {g : Nat} {f0 : List Int} {f1 : Int} (h : IsS129 w0 W g f0 f1) (m : Nat) : IsS129 w0 (W.drewN m) g f0 f1 := h
theorem IsS129.drew {w0 W : World} {g : Nat} {f0 : List Int} {f1 : Int} (h : IsS129 w0 W g f0 f1) : IsS129 w0 W.drew g f0 f1 := h
theorem IsS129.at_ {w0 W : World} {g : Nat} {f0 : List Int} {f1 : Int} {w' : World} {m : Nat} (hq : W.drewN m = w') (h : IsS129 w0 W g f0 f1) : IsS129 w0 w' g f0 f1 := by subst hq; exact IsS129.drewN h m
theorem IsS129.apart {w0 W : World} {g : Nat} {f0 : List Int} {f1 : Int} {α : Type} {d : Kd α} {e : Nat} {base : Nat} {ok : Nat → Prop} {v : Value} {xs : List α} (h : IsS129 w0 W g f0 f1) (ho : d.R e W base ok v xs) (ht : ∀ q, q ∈ e :: d.E → q ≠ 129) : d.R e W base (fun k => ok k ∧ k ≠ g) v xs := by
 obtain ⟨A0, c0, hb, hg, hr0⟩ := h; exact Kd.R_types ho hb ht
theorem IsS129.own_ne {w0 W : World} {g : Nat} {f0 : List Int} {f1 : Int} {α : Type} {d : Kd α} {e : Nat} {base : Nat} {ok : Nat → Prop} {v : Value} {xs : List α} (h : IsS129 w0 W g f0 f1) (ho : d.R e W base ok v xs) (ht : e ≠ 129) : some g ≠ v.ownBlock := by
 obtain ⟨A0, c0, hb, hg, hr0⟩ := h; exact Kd.R_ne ho hb ht
theorem IsS129.apartQ {w0 W : World} {g : Nat} {f0 : List Int} {f1 : Int} {α : Type} {d : Kd α} {e : Nat} {base : Nat} {ok : Nat → Prop} {v : Value} {xs : List α} (h : IsS129 w0 W g f0 f1) (ho : d.Q e W base ok v xs) (ht : ∀ q, q ∈ e :: d.E → q ≠ 129) : d.Q e W base (fun k => ok k ∧ k ≠ g) v xs := by
 obtain ⟨A0, c0, hb, hg, hr0⟩ := h; exact Kd.Q_types ho hb ht
theorem IsS129.own_neQ {w0 W : World} {g : Nat} {f0 : List Int} {f1 : Int} {α : Type} {d : Kd α} {e : Nat} {base : Nat} {ok : Nat → Prop} {v : Value} {xs : List α} (h : IsS129 w0 W g f0 f1) (ho : d.Q e W base ok v xs) (ht : e ≠ 129) : some g ≠ v.ownBlock := by
 obtain ⟨A0, c0, hb, hg, hr0⟩ := h; exact Kd.Q_ne ho hb ht
theorem IsS129.apartS {w0 W : World} {g : Nat} {f0 : List Int} {f1 : Int} {α : Type} {d : Kd α} {e : Nat} {base : Nat} {ok : Nat → Prop} {v : Value} {xs : List α} (h : IsS129 w0 W g f0 f1) (ho : d.S e W base ok v xs) (ht : ∀ q, q ∈ e :: d.E → q ≠ 129) : d.S e W base (fun k => ok k ∧ k ≠ g) v xs := by
 obtain ⟨A0, c0, hb, hg, hr0⟩ := h; exact Kd.S_types ho hb ht
theorem IsS129.own_neS {w0 W : World} {g : Nat} {f0 : List Int} {f1 : Int} {α : Type} {d : Kd α} {e : Nat} {base : Nat} {ok : Nat → Prop} {v : Value} {xs : List α} (h : IsS129 w0 W g f0 f1) (ho : d.S e W base ok v xs) (ht : e ≠ 129) : some g ≠ v.ownBlock := by
 obtain ⟨A0, c0, hb, hg, hr0⟩ := h; exact Kd.S_ne ho hb ht
theorem IsS129.lt {w0 W : World} {g : Nat} {f0 : List Int} {f1 : Int} (h : IsS129 w0 W g f0 f1) : g < W.heap.size := by
 obtain ⟨A0, c0, hb, hg, hr0⟩ := h; exact blk_lt hb
theorem IsS129.ge {w0 W : World} {g : Nat} {f0 : List Int} {f1 : Int} (h : IsS129 w0 W g f0 f1) : w0.heap.size ≤ g := by
 obtain ⟨A0, c0, hb, hg, hr0⟩ := h; exact hg
theorem IsS129.ne_blk {w0 W : World} {g : Nat} {f0 : List Int} {f1 : Int} {a : Nat} {cs : Array Value} {t : TypeId} {fr : Nat × Nat} (h : IsS129 w0 W g f0 f1) (hb2 : W.heap[a]? = some (.cells cs t fr)) (ht : t ≠ 129) : g ≠ a := by
 obtain ⟨A0, c0, hb, hg, hr0⟩ := h; rintro rfl; rw [hb] at hb2; injection hb2 with hb2
 injection hb2 with _ ht2
 exact ht ht2.symm
theorem IsS129.far {w0 W : World} {g : Nat} {f0 : List Int} {f1 : Int} {p : Addr} (h : IsS129 w0 W g f0 f1) (hne : g ≠ p.block) (u : Value) : IsS129 w0 (W.setCell p u) g f0 f1 := by
 obtain ⟨A0, c0, hb, hg, hr0⟩ := h; exact ⟨A0, c0, blk_far hb hne u, hg, hr0⟩
theorem cellS129_0 {W : World} {g : Nat} {A0 : Option Addr} {c0 : Nat} {f0 : List Int} {f1 : Int} (h : W.heap[g]? = some (.cells #[.slice A0 f0.length c0, .int .i64 f1] 129 (0, 0))) : W.cell? ⟨g, 0, none⟩ = some (.slice A0 f0.length c0) := (blk_cell h 0).trans rfl
theorem cellS129_1 {W : World} {g : Nat} {A0 : Option Addr} {c0 : Nat} {f0 : List Int} {f1 : Int} (h : W.heap[g]? = some (.cells #[.slice A0 f0.length c0, .int .i64 f1] 129 (0, 0))) : W.cell? ⟨g, 1, none⟩ = some (.int .i64 f1) := (blk_cell h 1).trans rfl
theorem IsS129.set_1 {w0 W : World} {g : Nat} {f0 : List Int} {f1 : Int} (h : IsS129 w0 W g f0 f1) (x : Int) : IsS129 w0 (W.setCell ⟨g, 1, none⟩ (.int .i64 x)) g f0 x := by
 obtain ⟨A0, c0, hb, hg, hr0⟩ := h; exact ⟨A0, c0, by simpa using blk_set hb 1 (.int .i64 x), hg, hr0⟩
theorem IsS129.new (w0 W : World) (A0 : Option Addr) (c0 : Nat) (f0 : List Int) (f1 : Int) (hB : Below w0.heap.size w0 W) (hr0 : Kd.C (Kd.int .u8) w0 A0 f0.length f0) : IsS129 w0 (W.alloc (.cells #[.slice A0 f0.length c0, .int .i64 f1] 129)) W.heap.size f0 f1 := ⟨A0, c0, by simpa using heap_alloc_new W _, hB.size, hr0⟩

/-! ### spec_l6Open: function 55 -/
def spec_l6Open.f (l0 : List Int) : Option (List Int × Int) := if (l0.length : Int) > 2000 then (if 2000 ≤ (l0.length : Int) then (some (l0.take 2000, 0)) else (none)) else (some (l0, 0))
set_option maxHeartbeats 8000000 in
set_option maxRecDepth 100000 in
theorem spec_l6Open.calls (A0 : Option Addr) (c0 : Nat) (l0 : List Int) (r1 : List Int) (r2 : Int) (w0 w : World) (hB : Below w0.heap.size w0 w) (hr0 : Kd.C (Kd.int .u8) w0 A0 l0.length l0) (hc0 : l0.length ≤ c0) (h : spec_l6Open.f l0 = some (r1, r2)) :
  Calls Tryd.prog 55 #[.slice A0 l0.length c0] w fun e w' => ∃ g_ : Nat, e = .returned (.pointer (some ⟨g_, 0, none⟩)) ∧ IsS129 w0 w' g_ r1 r2 ∧ Below w0.heap.size w0 w' ∧ Below w.heap.size w w' := by
 have hu129 := Tryd.underlying129; have HR0 := Aside0.mk hr0; have HC0 := Aside0.mk hc0; clear hr0 hc0; have HBW := Aside0.mk (Below.refl w.heap.size w); have HW0 := Aside0.mk hB.size; have HB := Aside0.mk hB; clear hB; have H : (if (l0.length : Int) > 2000 then (if 2000 ≤ (l0.length : Int) then (some (l0.take 2000, 0)) else (none)) else (some (l0, 0))) = some (r1, r2) := h; clear h; by_cases c2 : (l0.length : Int) > 2000
 ·rw [if_pos c2] at H; have c2b0 : decide (2000 < (l0.length : Int)) = true := decide_eq_true c2; have c2b1 : decide (2000 < l0.length) = true := decide_eq_true (by omega); clear c2; by_cases c3 : 2000 ≤ (l0.length : Int)
  ·rw [if_pos c3] at H; have c3b0 := eq_true c3; have c3b1 : decide (2000 ≤ (l0.length : Int)) = true := decide_eq_true c3; clear c3; simp only [Option.some.injEq, Prod.mk.injEq] at H; obtain ⟨rfl, rfl⟩ := H; obtain ⟨i04, hi04, _, hsz4, _⟩ := info_parts info5; obtain ⟨hcut4, hA4, hC4⟩ := print_take_of (P := Tryd.prog) (Value.int .u8) 0 41 5 .i64 Tryd.underlying41 hi04 hsz4 A0 c0 l0 2000 (by omega) (of_decide_eq_true (by first | (with_reducible assumption) | assumption)) HC0.out; have HR115 := Aside0.mk (Kd.C_of_reads (h1 := fun _ => rfl) (hA4 _ (Kd.reads_of_C HR0.out))); have HC115 := Aside0.mk hC4; clear hA4 hC4 hi04 hsz4; go_enter Tryd.func55, Tryd.ntmps55
   go_wp2_with (first | ((with_reducible refine gate_dst (N := 10) rfl ?_); refine box_event ?hg (N := 10) ?hd (cs := #[.slice A0 (l0.take 2000).length c0, .int .i64 0]) (t := 129) ?hr ?_; (case hd => rfl); (case hg => rfl); (case hr => first | (go_simp; done) | (go_simp; rfl)); intro gb116 hg w5 hbox hb; have n0_ := Aside0.mk (below_step HBW.out hb); have n1_ := Aside0.mk (below_step (by repeat (first | (with_reducible first | exact HB.out | apply below_alloc | apply pw_below_drewN | apply below_drew1) | exact HB.out)) hb); have n2_ := Aside0.mk (hbox); have n3_ := Aside0.mk ((by rw [hg]; exact (below_size (by repeat (first | (with_reducible first | exact HBW.out | apply below_alloc | apply pw_below_drewN | apply below_drew1) | exact HBW.out))) : w.heap.size ≤ gb116)); have n4_ := Aside0.mk ((Nat.le_trans HW0.out (by rw [hg]; exact (below_size (by repeat (first | (with_reducible first | exact HBW.out | apply below_alloc | apply pw_below_drewN | apply below_drew1) | exact HBW.out))) : w.heap.size ≤ gb116) : w0.heap.size ≤ gb116)); clear HBW; clear HB; have HBW := n0_; have HB := n1_; have BK116 := n2_; have GW116 := n3_; have GE116 := n4_; clear n0_ n1_ n2_ n3_ n4_; clear hb hbox hg))
   go_ret
   exact ⟨_, rfl, (show IsS129 w0 _ gb116 (l0.take 2000) 0 from ⟨_, _, by (with_reducible repeat (first | refine blk_drewN ?_ _ | refine blk_drew ?_ | refine blk_alloc ?_ _)); exact BK116.out, GE116.out, HR115.out⟩), by repeat (first | (with_reducible first | exact HB.out | apply below_alloc | apply pw_below_drewN | apply below_drew1 | refine below_set ?_ GE116.out) | exact HB.out), by repeat (first | (with_reducible first | exact HBW.out | apply below_alloc | apply pw_below_drewN | apply below_drew1 | refine below_set ?_ GW116.out) | exact HBW.out)⟩
  ·rw [if_neg c3] at H; exact absurd H (by simp)
 ·rw [if_neg c2] at H; have c2b0 : decide (2000 < (l0.length : Int)) = false := decide_eq_false c2; have c2b1 : decide (2000 < l0.length) = false := decide_eq_false (by omega); clear c2; simp only [Option.some.injEq, Prod.mk.injEq] at H; obtain ⟨rfl, rfl⟩ := H; go_enter Tryd.func55, Tryd.ntmps55
  go_wp2_with (first | ((with_reducible refine gate_dst (N := 10) rfl ?_); refine box_event ?hg (N := 10) ?hd (cs := #[.slice A0 l0.length c0, .int .i64 0]) (t := 129) ?hr ?_; (case hd => rfl); (case hg => rfl); (case hr => first | (go_simp; done) | (go_simp; rfl)); intro gb117 hg w6 hbox hb; have n0_ := Aside0.mk (below_step HBW.out hb); have n1_ := Aside0.mk (below_step (by repeat (first | (with_reducible first | exact HB.out | apply below_alloc | apply pw_below_drewN | apply below_drew1) | exact HB.out)) hb); have n2_ := Aside0.mk (hbox); have n3_ := Aside0.mk ((by rw [hg]; exact (below_size (by repeat (first | (with_reducible first | exact HBW.out | apply below_alloc | apply pw_below_drewN | apply below_drew1) | exact HBW.out))) : w.heap.size ≤ gb117)); have n4_ := Aside0.mk ((Nat.le_trans HW0.out (by rw [hg]; exact (below_size (by repeat (first | (with_reducible first | exact HBW.out | apply below_alloc | apply pw_below_drewN | apply below_drew1) | exact HBW.out))) : w.heap.size ≤ gb117) : w0.heap.size ≤ gb117)); clear HBW; clear HB; have HBW := n0_; have HB := n1_; have BK117 := n2_; have GW117 := n3_; have GE117 := n4_; clear n0_ n1_ n2_ n3_ n4_; clear hb hbox hg))
  go_ret
  exact ⟨_, rfl, (show IsS129 w0 _ gb117 l0 0 from ⟨_, _, by (with_reducible repeat (first | refine blk_drewN ?_ _ | refine blk_drew ?_ | refine blk_alloc ?_ _)); exact BK117.out, GE117.out, HR0.out⟩), by repeat (first | (with_reducible first | exact HB.out | apply below_alloc | apply pw_below_drewN | apply below_drew1 | refine below_set ?_ GE117.out) | exact HB.out), by repeat (first | (with_reducible first | exact HBW.out | apply below_alloc | apply pw_below_drewN | apply below_drew1 | refine below_set ?_ GW117.out) | exact HBW.out)⟩

end Go.Proofs.YtddbahlofgkoaaaDoor.PA
namespace Go.Proofs.YtddbahlofgkoaaaDoor.PA
open Go.RowKit Go.Proofs.YtddbahlofgkoaaaDoorW.PrintWords Go.Proofs.YtddbahlofgkoaaaDoorW.PrintLast Go.Proofs.YtddbahlofgkoaaaDoorW.PrintMore
attribute [local go_sem] max2_int min2_int max_two min_two max_three min_three max_four min_four   -- for this text's walks alone
set_option linter.unusedVariables false
set_option linter.unusedSimpArgs false

/-! ### spec_l6Rd_pick: function 59 -/
def spec_l6Rd_pick.j0 : Nat → Int → Bool → List Int → Int → Option (Int × Int)
 | 0, _, _, _, _ => none
 | k + 1, x1, x24, x1000, x1001 => if x24 = true then (some (0, x1001)) else (if (wrap64 (x1001 - 1)) < (x1000.length : Int) then (if 0 ≤ (wrap64 (x1001 - 1)) then (if x1 = 0 then (none) else (some (Int.tmod (wrap64 (rd x1000 (wrap64 (x1001 - 1)))) x1, x1001))) else (none)) else (if (x1000.length : Int) = 0 then (none) else (if 0 ≤ (Int.tmod (wrap64 (x1001 - 1)) (x1000.length : Int)) then (if (Int.tmod (wrap64 (x1001 - 1)) (x1000.length : Int)) < (x1000.length : Int) then (if 0 ≤ (Int.tmod (wrap64 ((wrap64 ((wrap64 (x1001 - 1)) * 7)) + 3)) (x1000.length : Int)) then (if (Int.tmod (wrap64 ((wrap64 ((wrap64 (x1001 - 1)) * 7)) + 3)) (x1000.length : Int)) < (x1000.length : Int) then (if x1 = 0 then (none) else (some (Int.tmod (Go.bits .xor .i64 (wrap64 ((wrap64 ((wrap64 ((wrap64 ((wrap64 (rd x1000 (Int.tmod (wrap64 (x1001 - 1)) (x1000.length : Int)))) * 131)) + (wrap64 ((wrap64 (rd x1000 (Int.tmod (wrap64 ((wrap64 ((wrap64 (x1001 - 1)) * 7)) + 3)) (x1000.length : Int)))) * 1117)))) + (wrap64 ((wrap64 (x1001 - 1)) * 29)))) + (wrap64 ((wrap64 (Int.tdiv (wrap64 (x1001 - 1)) (x1000.length : Int))) * 53)))) (wrap64 (Int.tdiv (wrap64 ((wrap64 ((wrap64 ((wrap64 ((wrap64 (rd x1000 (Int.tmod (wrap64 (x1001 - 1)) (x1000.length : Int)))) * 131)) + (wrap64 ((wrap64 (rd x1000 (Int.tmod (wrap64 ((wrap64 ((wrap64 (x1001 - 1)) * 7)) + 3)) (x1000.length : Int)))) * 1117)))) + (wrap64 ((wrap64 (x1001 - 1)) * 29)))) + (wrap64 ((wrap64 (Int.tdiv (wrap64 (x1001 - 1)) (x1000.length : Int))) * 53)))) 64))) x1, x1001))) else (none)) else (none)) else (none)) else (none))))
def spec_l6Rd_pick.f (k : Nat) (s0_0 : List Int) (s0_1 : Int) (a1 : Int) : Option (Int × Int) := if a1 < 1 then (spec_l6Rd_pick.j0 k a1 true s0_0 (wrap64 (s0_1 + 1))) else (spec_l6Rd_pick.j0 k a1 ((s0_0.length : Int) == 0) s0_0 (wrap64 (s0_1 + 1)))
theorem spec_l6Rd_pick.mono_l : ∀ k, (∀ y0 y1 y2 y3, LeO (spec_l6Rd_pick.j0 k y0 y1 y2 y3) (spec_l6Rd_pick.j0 (k + 1) y0 y1 y2 y3))
 | 0 => fun _ _ _ _ r h => by simp [spec_l6Rd_pick.j0] at h
 | k + 1 => by
  have ih0 := spec_l6Rd_pick.mono_l k
  ·intro y0 y1 y2 y3; unfold spec_l6Rd_pick.j0; repeat' first
   | (with_reducible exact ih0 _ _ _ _)
   | (with_reducible exact LeO.refl _)
   | (with_reducible exact LeO.none _)
   | (with_reducible refine LeO.ite ?_ ?_)
   | (with_reducible refine LeO.bind ?_ (fun _ => ?_))
   | exact ih0 _ _ _ _
   | exact LeO.none _
   | refine LeO.ite ?_ ?_
   | refine LeO.bind ?_ (fun _ => ?_)
theorem spec_l6Rd_pick.mono : ∀ a0 a1 a2 k, LeO (spec_l6Rd_pick.f k a0 a1 a2) (spec_l6Rd_pick.f (k + 1) a0 a1 a2) := by
 intro a0 a1 a2 k; have ih0 := spec_l6Rd_pick.mono_l k; unfold spec_l6Rd_pick.f; repeat' first
   | (with_reducible exact ih0 _ _ _ _)
   | (with_reducible exact LeO.refl _)
   | (with_reducible exact LeO.none _)
   | (with_reducible refine LeO.ite ?_ ?_)
   | (with_reducible refine LeO.bind ?_ (fun _ => ?_))
   | exact ih0 _ _ _ _
   | exact LeO.none _
   | refine LeO.ite ?_ ?_
   | refine LeO.bind ?_ (fun _ => ?_)
set_option maxHeartbeats 8000000 in
set_option maxRecDepth 100000 in
theorem spec_l6Rd_pick.calls (k : Nat) (g : Nat) (s0_0 : List Int) (s0_1 : Int) (a1 : Int) (r1 : Int) (r2 : Int) (w0 w : World) (hI : IsS129 w0 w g s0_0 s0_1) (hB : Below w0.heap.size w0 w) (h : spec_l6Rd_pick.f k s0_0 s0_1 a1 = some (r1, r2)) :
  Calls Tryd.prog 59 #[.pointer (some ⟨g, 0, none⟩), .int .i64 a1] w fun e w' => e = .returned (.int .i64 r1) ∧ IsS129 w0 w' g s0_0 r2 ∧ Below w0.heap.size w0 w' ∧ KeepBut w w' g none := by
 have HI0 := Aside0.mk hI; have HK := Aside0.mk (KeepBut.refl w g none); have HL := Aside0.mk hB.size; clear hI; have HW0 := Aside0.mk hB.size; have HB := Aside0.mk hB; clear hB; have H : (if a1 < 1 then (spec_l6Rd_pick.j0 k a1 true s0_0 (wrap64 (s0_1 + 1))) else (spec_l6Rd_pick.j0 k a1 ((s0_0.length : Int) == 0) s0_0 (wrap64 (s0_1 + 1)))) = some (r1, r2) := h; clear h; have HC3 := Aside0.mk H; clear H; obtain ⟨ASz4_0, cSz4_0, HGz4, hgz4, HSz4_0⟩ := HI0.out; have hcz4_0 := cellS129_0 HGz4; have hcz4_1 := cellS129_1 HGz4; have hfz4_1 := blk_frozen HGz4 1; clear HGz4 hgz4; go_enter Tryd.func59, Tryd.ntmps59
 go_upto_region 2 with (fail)
 repeat (go_quiet (fail); go_upto_region 2 with (fail))
 go_cut [24] (fun v24 wc => ∃ (kq : Nat) (x24_2 : Bool), v24 = .bool x24_2 ∧ Aside0 (spec_l6Rd_pick.j0 kq a1 x24_2 s0_0 (wrap64 (s0_1 + 1)) = some (r1, r2)) ∧ Aside0 (kq ≤ k) ∧ Aside0 (IsS129 w0 wc g s0_0 (wrap64 (s0_1 + 1))) ∧ Aside0 (KeepBut w wc g none) ∧ Aside0 (Below w0.heap.size w0 wc))
 case first =>
  have H := HC3.out; clear HC3; by_cases c5 : a1 < 1
  ·rw [if_pos c5] at H; have c5b0 : decide (a1 < 1) = true := decide_eq_true c5; clear c5; (first | rw [c5b0] | (simp only [i64_w, i32_w]; rw [c5b0]) | skip); have H' := Aside0.mk H; clear H; go_wp2
   repeat (go_quiet (fail); try go_wp2)
   go_meet
   case rel => exact ⟨_, (true), (by first | rfl | (simp; done) | (simp [*]; done)), H', ⟨by first | omega | exact Nat.le_refl _⟩, ⟨by repeat (first | (with_reducible first | exact HI0.out | apply IsS129.alloc | apply IsS129.drewN | apply IsS129.drew | apply IsS129.set_1) | exact HI0.out)⟩, ⟨by repeat (first | (with_reducible first | exact HK.out | apply KeepBut.set_ | apply keep_drewN | apply keep_drew | apply keep_alloc) | exact HK.out)⟩, ⟨by repeat (first | (with_reducible first | exact HB.out | apply below_alloc | apply pw_below_drewN | apply below_drew1 | refine below_set ?_ (IsS129.ge HI0.out)) | exact HB.out)⟩⟩
  ·rw [if_neg c5] at H; have c5b0 : decide (a1 < 1) = false := decide_eq_false c5; clear c5; (first | rw [c5b0] | (simp only [i64_w, i32_w]; rw [c5b0]) | skip); have H' := Aside0.mk H; clear H; obtain ⟨ASz6_0, cSz6_0, HGz6, hgz6, HSz6_0⟩ := HI0.out; have hcz6_0 := cellS129_0 HGz6; have hcz6_1 := cellS129_1 HGz6; have hfz6_1 := blk_frozen HGz6 1; clear HGz6 hgz6; go_wp2
   repeat (go_quiet (fail); try go_wp2)
   go_meet
   case rel => exact ⟨_, (((s0_0.length : Int) == 0)), (by first | rfl | (simp; done) | (simp [*]; done)), H', ⟨by first | omega | exact Nat.le_refl _⟩, ⟨by repeat (first | (with_reducible first | exact HI0.out | apply IsS129.alloc | apply IsS129.drewN | apply IsS129.drew | apply IsS129.set_1) | exact HI0.out)⟩, ⟨by repeat (first | (with_reducible first | exact HK.out | apply KeepBut.set_ | apply keep_drewN | apply keep_drew | apply keep_alloc) | exact HK.out)⟩, ⟨by repeat (first | (with_reducible first | exact HB.out | apply below_alloc | apply pw_below_drewN | apply below_drew1 | refine below_set ?_ (IsS129.ge HI0.out)) | exact HB.out)⟩⟩
 case rest =>
  clear HC3; try clear p2
  try clear c5
  try clear c5b0
  try clear p6
  try clear hcz4_0
  try clear hcz4_1
  try clear hcz6_0
  try clear hcz6_1
  try clear hfz4_1
  try clear hfz6_1
  obtain ⟨kq, x24_2, rfl, HA, HJ2, HI0, HK, HB⟩ := hcut; cases kq with
  | zero => exact absurd HA.out (by simp [spec_l6Rd_pick.j0])
  | succ kj2 =>
   have H := HA.out; clear HA; simp only [spec_l6Rd_pick.j0] at H; by_cases c7 : x24_2 = true
   ·subst c7; have H1 : (some (0, (wrap64 (s0_1 + 1)))) = some (r1, r2) := by rw [if_pos rfl] at H; exact H
    clear H; have H := H1; clear H1; simp only [Option.some.injEq, Prod.mk.injEq] at H; obtain ⟨rfl, rfl⟩ := H; go_wp2
    repeat (go_quiet (fail); try go_wp2)
    go_ret
    exact ⟨by first | rfl | (simp [errW_none, errW_some] <;> rfl) | (simp [*, errW_none, errW_some] <;> rfl), by repeat (first | (with_reducible first | exact HI0.out | apply IsS129.alloc | apply IsS129.drewN | apply IsS129.drew | apply IsS129.set_1) | exact HI0.out), by repeat (first | (with_reducible first | exact HB.out | apply below_alloc | apply pw_below_drewN | apply below_drew1 | refine below_set ?_ (IsS129.ge HI0.out)) | exact HB.out), by repeat (first | (with_reducible first | exact HK.out | apply KeepBut.set_ | apply keep_drewN | apply keep_drew | apply keep_alloc) | exact HK.out)⟩
   ·replace c7 := Bool.eq_false_iff.mpr c7; subst c7; have H1 : (if (wrap64 ((wrap64 (s0_1 + 1)) - 1)) < (s0_0.length : Int) then (if 0 ≤ (wrap64 ((wrap64 (s0_1 + 1)) - 1)) then (if a1 = 0 then (none) else (some (Int.tmod (wrap64 (rd s0_0 (wrap64 ((wrap64 (s0_1 + 1)) - 1)))) a1, (wrap64 (s0_1 + 1))))) else (none)) else (if (s0_0.length : Int) = 0 then (none) else (if 0 ≤ (Int.tmod (wrap64 ((wrap64 (s0_1 + 1)) - 1)) (s0_0.length : Int)) then (if (Int.tmod (wrap64 ((wrap64 (s0_1 + 1)) - 1)) (s0_0.length : Int)) < (s0_0.length : Int) then (if 0 ≤ (Int.tmod (wrap64 ((wrap64 ((wrap64 ((wrap64 (s0_1 + 1)) - 1)) * 7)) + 3)) (s0_0.length : Int)) then (if (Int.tmod (wrap64 ((wrap64 ((wrap64 ((wrap64 (s0_1 + 1)) - 1)) * 7)) + 3)) (s0_0.length : Int)) < (s0_0.length : Int) then (if a1 = 0 then (none) else (some (Int.tmod (Go.bits .xor .i64 (wrap64 ((wrap64 ((wrap64 ((wrap64 ((wrap64 (rd s0_0 (Int.tmod (wrap64 ((wrap64 (s0_1 + 1)) - 1)) (s0_0.length : Int)))) * 131)) + (wrap64 ((wrap64 (rd s0_0 (Int.tmod (wrap64 ((wrap64 ((wrap64 ((wrap64 (s0_1 + 1)) - 1)) * 7)) + 3)) (s0_0.length : Int)))) * 1117)))) + (wrap64 ((wrap64 ((wrap64 (s0_1 + 1)) - 1)) * 29)))) + (wrap64 ((wrap64 (Int.tdiv (wrap64 ((wrap64 (s0_1 + 1)) - 1)) (s0_0.length : Int))) * 53)))) (wrap64 (Int.tdiv (wrap64 ((wrap64 ((wrap64 ((wrap64 ((wrap64 (rd s0_0 (Int.tmod (wrap64 ((wrap64 (s0_1 + 1)) - 1)) (s0_0.length : Int)))) * 131)) + (wrap64 ((wrap64 (rd s0_0 (Int.tmod (wrap64 ((wrap64 ((wrap64 ((wrap64 (s0_1 + 1)) - 1)) * 7)) + 3)) (s0_0.length : Int)))) * 1117)))) + (wrap64 ((wrap64 ((wrap64 (s0_1 + 1)) - 1)) * 29)))) + (wrap64 ((wrap64 (Int.tdiv (wrap64 ((wrap64 (s0_1 + 1)) - 1)) (s0_0.length : Int))) * 53)))) 64))) a1, (wrap64 (s0_1 + 1))))) else (none)) else (none)) else (none)) else (none)))) = some (r1, r2) := by rw [if_neg (show ¬ (false = true) by decide)] at H; exact H
    clear H; have H := H1; clear H1; by_cases c8 : (wrap64 ((wrap64 (s0_1 + 1)) - 1)) < (s0_0.length : Int)
    ·rw [if_pos c8] at H; have c8b0 : decide ((wrap64 ((wrap64 (s0_1 + 1)) - 1)) < (s0_0.length : Int)) = true := decide_eq_true c8; clear c8; obtain ⟨ji9, hji9⟩ : ∃ j_ : Int, (wrap64 ((wrap64 (s0_1 + 1)) - 1)) = j_ := ⟨_, rfl⟩; replace H : (if 0 ≤ (ji9) then (if a1 = 0 then (none) else (some (Int.tmod (wrap64 (rd s0_0 (ji9))) a1, (wrap64 (s0_1 + 1))))) else (none)) = some (r1, r2) := by first | (rw [hji9] at H; exact H) | (simp only [hji9] at H ⊢; exact H)
     (try rw [hji9] at c8b0); have hji9w : (IntKind.i64.wrap ((wrap64 (s0_1 + 1)) - 1)) = ji9 := (i64_w _).trans hji9; by_cases c10 : 0 ≤ (ji9)
     ·rw [if_pos c10] at H; have c10b0 : decide (0 ≤ (ji9)) = true := decide_eq_true c10; clear c10; by_cases c11 : a1 = 0
      ·rw [if_pos c11] at H; exact absurd H (by simp)
      ·rw [if_neg c11] at H; have c11b0 : (a1 == 0) = false := beq_eq_false_iff_ne.mpr c11; have c11b1 : (a1 != 0) = true := bne_iff_ne.mpr c11; simp only [Option.some.injEq, Prod.mk.injEq] at H; obtain ⟨rfl, rfl⟩ := H; obtain ⟨ASz12_0, cSz12_0, HGz12, hgz12, HSz12_0⟩ := HI0.out; have hcz12_0 := cellS129_0 HGz12; have hcz12_1 := cellS129_1 HGz12; have hfz12_1 := blk_frozen HGz12 1; clear HGz12 hgz12; have p118 : 0 ≤ ((ji9) : Int) := of_decide_eq_true (by first | (with_reducible assumption) | assumption); have q118 : (ji9) < (s0_0.length : Int) := of_decide_eq_true (by first | (with_reducible assumption) | assumption); obtain ⟨ad118, e118, hx118_0⟩ := Kd.at_int HSz12_0 (ji9) p118 q118; cases e118; replace hx118_0 := pw_cell_below HB.out hx118_0; replace p118 := eq_true p118; replace q118 := eq_true q118; go_wp2
       repeat (go_quiet (fail); try go_wp2)
       go_ret
       exact ⟨by first | rfl | (simp [errW_none, errW_some] <;> rfl) | (simp only [← hji9]; first | rfl | (simp [errW_none, errW_some] <;> rfl)) | (simp [*, errW_none, errW_some] <;> rfl), by repeat (first | (with_reducible first | exact HI0.out | apply IsS129.alloc | apply IsS129.drewN | apply IsS129.drew | apply IsS129.set_1) | exact HI0.out), by repeat (first | (with_reducible first | exact HB.out | apply below_alloc | apply pw_below_drewN | apply below_drew1 | refine below_set ?_ (IsS129.ge HI0.out)) | exact HB.out), by repeat (first | (with_reducible first | exact HK.out | apply KeepBut.set_ | apply keep_drewN | apply keep_drew | apply keep_alloc) | exact HK.out)⟩
     ·rw [if_neg c10] at H; exact absurd H (by simp)
    ·rw [if_neg c8] at H; have c8b0 : decide ((wrap64 ((wrap64 (s0_1 + 1)) - 1)) < (s0_0.length : Int)) = false := decide_eq_false c8; clear c8; by_cases c13 : (s0_0.length : Int) = 0
     ·rw [if_pos c13] at H; exact absurd H (by simp)
     ·rw [if_neg c13] at H; have c13b0 : ((s0_0.length : Int) == 0) = false := beq_eq_false_iff_ne.mpr c13; have c13b1 : ((s0_0.length : Int) != 0) = true := bne_iff_ne.mpr c13; have c13b2 : ¬ (s0_0 = []) := fun h_ => c13 (by rw [h_]; rfl)
      obtain ⟨ji14, hji14⟩ : ∃ j_ : Int, (Int.tmod (wrap64 ((wrap64 (s0_1 + 1)) - 1)) (s0_0.length : Int)) = j_ := ⟨_, rfl⟩; replace H : (if 0 ≤ (ji14) then (if (ji14) < (s0_0.length : Int) then (if 0 ≤ (Int.tmod (wrap64 ((wrap64 ((wrap64 ((wrap64 (s0_1 + 1)) - 1)) * 7)) + 3)) (s0_0.length : Int)) then (if (Int.tmod (wrap64 ((wrap64 ((wrap64 ((wrap64 (s0_1 + 1)) - 1)) * 7)) + 3)) (s0_0.length : Int)) < (s0_0.length : Int) then (if a1 = 0 then (none) else (some (Int.tmod (Go.bits .xor .i64 (wrap64 ((wrap64 ((wrap64 ((wrap64 ((wrap64 (rd s0_0 (ji14))) * 131)) + (wrap64 ((wrap64 (rd s0_0 (Int.tmod (wrap64 ((wrap64 ((wrap64 ((wrap64 (s0_1 + 1)) - 1)) * 7)) + 3)) (s0_0.length : Int)))) * 1117)))) + (wrap64 ((wrap64 ((wrap64 (s0_1 + 1)) - 1)) * 29)))) + (wrap64 ((wrap64 (Int.tdiv (wrap64 ((wrap64 (s0_1 + 1)) - 1)) (s0_0.length : Int))) * 53)))) (wrap64 (Int.tdiv (wrap64 ((wrap64 ((wrap64 ((wrap64 ((wrap64 (rd s0_0 (ji14))) * 131)) + (wrap64 ((wrap64 (rd s0_0 (Int.tmod (wrap64 ((wrap64 ((wrap64 ((wrap64 (s0_1 + 1)) - 1)) * 7)) + 3)) (s0_0.length : Int)))) * 1117)))) + (wrap64 ((wrap64 ((wrap64 (s0_1 + 1)) - 1)) * 29)))) + (wrap64 ((wrap64 (Int.tdiv (wrap64 ((wrap64 (s0_1 + 1)) - 1)) (s0_0.length : Int))) * 53)))) 64))) a1, (wrap64 (s0_1 + 1))))) else (none)) else (none)) else (none)) else (none)) = some (r1, r2) := by first | (rw [hji14] at H; exact H) | (simp only [hji14] at H ⊢; exact H)
      by_cases c15 : 0 ≤ (ji14)
      ·rw [if_pos c15] at H; have c15b0 : decide (0 ≤ (ji14)) = true := decide_eq_true c15; clear c15; by_cases c16 : (ji14) < (s0_0.length : Int)
       ·rw [if_pos c16] at H; have c16b0 : decide ((ji14) < (s0_0.length : Int)) = true := decide_eq_true c16; clear c16; obtain ⟨ji17, hji17⟩ : ∃ j_ : Int, (Int.tmod (wrap64 ((wrap64 ((wrap64 ((wrap64 (s0_1 + 1)) - 1)) * 7)) + 3)) (s0_0.length : Int)) = j_ := ⟨_, rfl⟩; replace H : (if 0 ≤ (ji17) then (if (ji17) < (s0_0.length : Int) then (if a1 = 0 then (none) else (some (Int.tmod (Go.bits .xor .i64 (wrap64 ((wrap64 ((wrap64 ((wrap64 ((wrap64 (rd s0_0 (ji14))) * 131)) + (wrap64 ((wrap64 (rd s0_0 (ji17))) * 1117)))) + (wrap64 ((wrap64 ((wrap64 (s0_1 + 1)) - 1)) * 29)))) + (wrap64 ((wrap64 (Int.tdiv (wrap64 ((wrap64 (s0_1 + 1)) - 1)) (s0_0.length : Int))) * 53)))) (wrap64 (Int.tdiv (wrap64 ((wrap64 ((wrap64 ((wrap64 ((wrap64 (rd s0_0 (ji14))) * 131)) + (wrap64 ((wrap64 (rd s0_0 (ji17))) * 1117)))) + (wrap64 ((wrap64 ((wrap64 (s0_1 + 1)) - 1)) * 29)))) + (wrap64 ((wrap64 (Int.tdiv (wrap64 ((wrap64 (s0_1 + 1)) - 1)) (s0_0.length : Int))) * 53)))) 64))) a1, (wrap64 (s0_1 + 1))))) else (none)) else (none)) = some (r1, r2) := by first | (rw [hji17] at H; exact H) | (simp only [hji17] at H ⊢; exact H)
        by_cases c18 : 0 ≤ (ji17)
        ·rw [if_pos c18] at H; have c18b0 : decide (0 ≤ (ji17)) = true := decide_eq_true c18; clear c18; by_cases c19 : (ji17) < (s0_0.length : Int)
         ·rw [if_pos c19] at H; have c19b0 : decide ((ji17) < (s0_0.length : Int)) = true := decide_eq_true c19; clear c19; by_cases c20 : a1 = 0
          ·rw [if_pos c20] at H; exact absurd H (by simp)
          ·rw [if_neg c20] at H; have c20b0 : (a1 == 0) = false := beq_eq_false_iff_ne.mpr c20; have c20b1 : (a1 != 0) = true := bne_iff_ne.mpr c20; simp only [Option.some.injEq, Prod.mk.injEq] at H; obtain ⟨rfl, rfl⟩ := H; obtain ⟨ASz21_0, cSz21_0, HGz21, hgz21, HSz21_0⟩ := HI0.out; have hcz21_0 := cellS129_0 HGz21; have hcz21_1 := cellS129_1 HGz21; have hfz21_1 := blk_frozen HGz21 1; clear HGz21 hgz21; have p119 : 0 ≤ ((ji14) : Int) := of_decide_eq_true (by first | (with_reducible assumption) | assumption); have q119 : (ji14) < (s0_0.length : Int) := of_decide_eq_true (by first | (with_reducible assumption) | assumption); obtain ⟨ad119, e119, hx119_0⟩ := Kd.at_int HSz21_0 (ji14) p119 q119; cases e119; replace hx119_0 := pw_cell_below HB.out hx119_0; replace p119 := eq_true p119; replace q119 := eq_true q119; have p120 : 0 ≤ ((ji17) : Int) := of_decide_eq_true (by first | (with_reducible assumption) | assumption); have q120 : (ji17) < (s0_0.length : Int) := of_decide_eq_true (by first | (with_reducible assumption) | assumption); obtain ⟨ad120, e120, hx120_0⟩ := Kd.at_int HSz21_0 (ji17) p120 q120; obtain rfl : ad119 = ad120 := (by injection e120); replace hx120_0 := pw_cell_below HB.out hx120_0; replace p120 := eq_true p120; replace q120 := eq_true q120; go_wp2
           repeat (go_quiet (fail); try go_wp2)
           go_ret
           exact ⟨by first | rfl | (simp [errW_none, errW_some] <;> rfl) | (simp only [← hji14, ← hji17]; first | rfl | (simp [errW_none, errW_some] <;> rfl)) | (simp [*, errW_none, errW_some] <;> rfl), by repeat (first | (with_reducible first | exact HI0.out | apply IsS129.alloc | apply IsS129.drewN | apply IsS129.drew | apply IsS129.set_1) | exact HI0.out), by repeat (first | (with_reducible first | exact HB.out | apply below_alloc | apply pw_below_drewN | apply below_drew1 | refine below_set ?_ (IsS129.ge HI0.out)) | exact HB.out), by repeat (first | (with_reducible first | exact HK.out | apply KeepBut.set_ | apply keep_drewN | apply keep_drew | apply keep_alloc) | exact HK.out)⟩
         ·rw [if_neg c19] at H; exact absurd H (by simp)
        ·rw [if_neg c18] at H; exact absurd H (by simp)
       ·rw [if_neg c16] at H; exact absurd H (by simp)
      ·rw [if_neg c15] at H; exact absurd H (by simp)

end Go.Proofs.YtddbahlofgkoaaaDoor.PA
namespace Go.Proofs.YtddbahlofgkoaaaDoor.PA
open Go.RowKit Go.Proofs.YtddbahlofgkoaaaDoorW.PrintWords Go.Proofs.YtddbahlofgkoaaaDoorW.PrintLast Go.Proofs.YtddbahlofgkoaaaDoorW.PrintMore
attribute [local go_sem] max2_int min2_int max_two min_two max_three min_three max_four min_four   -- for this text's walks alone
set_option linter.unusedVariables false
set_option linter.unusedSimpArgs false

/-! ### spec_DrawFracOf: function 25 -/
def spec_DrawFracOf.f (k : Nat) (l0 : List Int) : Option (Int × Int) := (spec_l6Open.f l0).bind fun bt121 => ((spec_l6Rd_pick.f k bt121.1 bt121.2 100).bind fun bt124 => ((spec_l6Rd_pick.f k bt121.1 bt124.2 12).bind fun bt126 => ((spec_l6Rd_pick.f k bt121.1 bt126.2 40).bind fun bt128 => ((spec_l6Rd_pick.f k bt121.1 bt128.2 16).bind fun bt130 => (some (wrap64 (bt124.1 - (wrap64 ((wrap64 (Int.tdiv bt126.1 11)) * 200))), wrap64 (bt128.1 + (wrap64 ((wrap64 (Int.tdiv bt130.1 15)) * 99999)))))))))
theorem spec_DrawFracOf.mono : ∀ a0 k, LeO (spec_DrawFracOf.f k a0) (spec_DrawFracOf.f (k + 1) a0) := by
 intro a0 k; unfold spec_DrawFracOf.f; repeat' first
   | (with_reducible exact spec_l6Rd_pick.mono _ _ _ _)
   | (with_reducible exact LeO.refl _)
   | (with_reducible exact LeO.none _)
   | (with_reducible refine LeO.ite ?_ ?_)
   | (with_reducible refine LeO.bind ?_ (fun _ => ?_))
   | exact spec_l6Rd_pick.mono _ _ _ _
   | exact LeO.none _
   | refine LeO.ite ?_ ?_
   | refine LeO.bind ?_ (fun _ => ?_)
set_option maxHeartbeats 8000000 in
set_option maxRecDepth 100000 in
theorem spec_DrawFracOf.calls (k : Nat) (A0 : Option Addr) (c0 : Nat) (l0 : List Int) (r1 : Int) (r2 : Int) (w : World) (hr0 : Kd.C (Kd.int .u8) w A0 l0.length l0) (hc0 : l0.length ≤ c0) (h : spec_DrawFracOf.f k l0 = some (r1, r2)) :
  Calls Tryd.prog 25 #[.slice A0 l0.length c0] w fun e w' => e = .returned (.tuple #[.int .i64 r1, .int .i64 r2]) ∧ Below w.heap.size w w' := by
 have HR0 := Aside0.mk hr0; have HC0 := Aside0.mk hc0; clear hr0 hc0; have HB := Aside0.mk (Below.refl w.heap.size w); have H : ((spec_l6Open.f l0).bind fun bt121 => ((spec_l6Rd_pick.f k bt121.1 bt121.2 100).bind fun bt124 => ((spec_l6Rd_pick.f k bt121.1 bt124.2 12).bind fun bt126 => ((spec_l6Rd_pick.f k bt121.1 bt126.2 40).bind fun bt128 => ((spec_l6Rd_pick.f k bt121.1 bt128.2 16).bind fun bt130 => (some (wrap64 (bt124.1 - (wrap64 ((wrap64 (Int.tdiv bt126.1 11)) * 200))), wrap64 (bt128.1 + (wrap64 ((wrap64 (Int.tdiv bt130.1 15)) * 99999)))))))))) = some (r1, r2) := h; clear h; replace H := Option.bind_eq_some_iff.mp H; obtain ⟨⟨t121, t122⟩, A20, H⟩ := H; replace H : ((spec_l6Rd_pick.f k t121 t122 100).bind fun bt124 => ((spec_l6Rd_pick.f k t121 bt124.2 12).bind fun bt126 => ((spec_l6Rd_pick.f k t121 bt126.2 40).bind fun bt128 => ((spec_l6Rd_pick.f k t121 bt128.2 16).bind fun bt130 => (some (wrap64 (bt124.1 - (wrap64 ((wrap64 (Int.tdiv bt126.1 11)) * 200))), wrap64 (bt128.1 + (wrap64 ((wrap64 (Int.tdiv bt130.1 15)) * 99999))))))))) = some (r1, r2) := H; have A2 := Aside0.mk A20; clear A20; replace H := Option.bind_eq_some_iff.mp H; obtain ⟨⟨t124, t125⟩, A30, H⟩ := H; replace H : ((spec_l6Rd_pick.f k t121 t125 12).bind fun bt126 => ((spec_l6Rd_pick.f k t121 bt126.2 40).bind fun bt128 => ((spec_l6Rd_pick.f k t121 bt128.2 16).bind fun bt130 => (some (wrap64 (t124 - (wrap64 ((wrap64 (Int.tdiv bt126.1 11)) * 200))), wrap64 (bt128.1 + (wrap64 ((wrap64 (Int.tdiv bt130.1 15)) * 99999)))))))) = some (r1, r2) := H; have A3 := Aside0.mk A30; clear A30; replace H := Option.bind_eq_some_iff.mp H; obtain ⟨⟨t126, t127⟩, A40, H⟩ := H; replace H : ((spec_l6Rd_pick.f k t121 t127 40).bind fun bt128 => ((spec_l6Rd_pick.f k t121 bt128.2 16).bind fun bt130 => (some (wrap64 (t124 - (wrap64 ((wrap64 (Int.tdiv t126 11)) * 200))), wrap64 (bt128.1 + (wrap64 ((wrap64 (Int.tdiv bt130.1 15)) * 99999))))))) = some (r1, r2) := H; have A4 := Aside0.mk A40; clear A40; replace H := Option.bind_eq_some_iff.mp H; obtain ⟨⟨t128, t129⟩, A50, H⟩ := H; replace H : ((spec_l6Rd_pick.f k t121 t129 16).bind fun bt130 => (some (wrap64 (t124 - (wrap64 ((wrap64 (Int.tdiv t126 11)) * 200))), wrap64 (t128 + (wrap64 ((wrap64 (Int.tdiv bt130.1 15)) * 99999)))))) = some (r1, r2) := H; have A5 := Aside0.mk A50; clear A50; replace H := Option.bind_eq_some_iff.mp H; obtain ⟨⟨t130, t131⟩, A60, H⟩ := H; replace H : (some (wrap64 (t124 - (wrap64 ((wrap64 (Int.tdiv t126 11)) * 200))), wrap64 (t128 + (wrap64 ((wrap64 (Int.tdiv t130 15)) * 99999))))) = some (r1, r2) := H; have A6 := Aside0.mk A60; clear A60; simp only [Option.some.injEq, Prod.mk.injEq] at H; obtain ⟨rfl, rfl⟩ := H; go_enter Tryd.func25, Tryd.ntmps25
 go_wp2_with (first | ((with_reducible refine gate_callee (f := 55) rfl ?_); refine goesL_ (some 6) rfl rfl Tryd.func55 (by kernel_rfl) rfl #[.slice A0 l0.length c0] rfl (by (try simp only [List.map_toArray, List.map_cons, List.map_nil]); first | done | rfl | (simp only [List.length_drop, List.length_take]; rfl)) ?_; (with_reducible refine (spec_l6Open.calls _ _ l0 t121 t122 w _ ?side1 ?side2 ?side3 A2.out).mono ?_); (case side1 => repeat (first | (with_reducible first | exact HB.out | apply below_alloc | apply pw_below_drewN | apply below_drew1) | exact HB.out)); (case side2 => exact HR0.out); (case side3 => exact HC0.out); rintro e w7 ⟨g123, rfl, hi, hb, hb2⟩; refine ⟨_, rfl, ?_⟩; have n0_ := Aside0.mk (hb); have n1_ := Aside0.mk (hi); clear HB; have HB := n0_; have HI123 := n1_; clear n0_ n1_; (try clear hb); (try clear hb2); (try clear hk); (try clear hi)) | ((with_reducible refine gate_callee (f := 59) rfl ?_); refine goesL_ (some 8) rfl rfl Tryd.func59 (by kernel_rfl) rfl #[.pointer (some ⟨g123, 0, none⟩), .int .i64 100] rfl (by (try simp only [List.map_toArray, List.map_cons, List.map_nil]); first | done | rfl | (simp only [List.length_drop, List.length_take]; rfl)) ?_; (with_reducible refine (spec_l6Rd_pick.calls k g123 t121 t122 100 t124 t125 w _ ?side1 ?side2 A3.out).mono ?_); (case side1 => repeat (first | (with_reducible first | exact HI123.out | apply IsS129.alloc | apply IsS129.drewN | apply IsS129.drew | apply IsS129.set_1) | exact HI123.out)); (case side2 => repeat (first | (with_reducible first | exact HB.out | apply below_alloc | apply pw_below_drewN | apply below_drew1 | refine below_set ?_ (IsS129.ge HI123.out)) | exact HB.out)); rintro e w8 ⟨rfl, hi, hb, hk⟩; refine ⟨_, rfl, ?_⟩; have n0_ := Aside0.mk (hb); have n1_ := Aside0.mk (hi); clear HB; clear HI123; have HB := n0_; have HI123 := n1_; clear n0_ n1_; (try clear hb); (try clear hb2); (try clear hk); (try clear hi)) | ((with_reducible refine gate_callee (f := 59) rfl ?_); refine goesL_ (some 10) rfl rfl Tryd.func59 (by kernel_rfl) rfl #[.pointer (some ⟨g123, 0, none⟩), .int .i64 12] rfl (by (try simp only [List.map_toArray, List.map_cons, List.map_nil]); first | done | rfl | (simp only [List.length_drop, List.length_take]; rfl)) ?_; (with_reducible refine (spec_l6Rd_pick.calls k g123 t121 t125 12 t126 t127 w _ ?side1 ?side2 A4.out).mono ?_); (case side1 => repeat (first | (with_reducible first | exact HI123.out | apply IsS129.alloc | apply IsS129.drewN | apply IsS129.drew | apply IsS129.set_1) | exact HI123.out)); (case side2 => repeat (first | (with_reducible first | exact HB.out | apply below_alloc | apply pw_below_drewN | apply below_drew1 | refine below_set ?_ (IsS129.ge HI123.out)) | exact HB.out)); rintro e w9 ⟨rfl, hi, hb, hk⟩; refine ⟨_, rfl, ?_⟩; have n0_ := Aside0.mk (hb); have n1_ := Aside0.mk (hi); clear HB; clear HI123; have HB := n0_; have HI123 := n1_; clear n0_ n1_; (try clear hb); (try clear hb2); (try clear hk); (try clear hi)) | ((with_reducible refine gate_callee (f := 59) rfl ?_); refine goesL_ (some 15) rfl rfl Tryd.func59 (by kernel_rfl) rfl #[.pointer (some ⟨g123, 0, none⟩), .int .i64 40] rfl (by (try simp only [List.map_toArray, List.map_cons, List.map_nil]); first | done | rfl | (simp only [List.length_drop, List.length_take]; rfl)) ?_; (with_reducible refine (spec_l6Rd_pick.calls k g123 t121 t127 40 t128 t129 w _ ?side1 ?side2 A5.out).mono ?_); (case side1 => repeat (first | (with_reducible first | exact HI123.out | apply IsS129.alloc | apply IsS129.drewN | apply IsS129.drew | apply IsS129.set_1) | exact HI123.out)); (case side2 => repeat (first | (with_reducible first | exact HB.out | apply below_alloc | apply pw_below_drewN | apply below_drew1 | refine below_set ?_ (IsS129.ge HI123.out)) | exact HB.out)); rintro e w10 ⟨rfl, hi, hb, hk⟩; refine ⟨_, rfl, ?_⟩; have n0_ := Aside0.mk (hb); have n1_ := Aside0.mk (hi); clear HB; clear HI123; have HB := n0_; have HI123 := n1_; clear n0_ n1_; (try clear hb); (try clear hb2); (try clear hk); (try clear hi)) | ((with_reducible refine gate_callee (f := 59) rfl ?_); refine goesL_ (some 17) rfl rfl Tryd.func59 (by kernel_rfl) rfl #[.pointer (some ⟨g123, 0, none⟩), .int .i64 16] rfl (by (try simp only [List.map_toArray, List.map_cons, List.map_nil]); first | done | rfl | (simp only [List.length_drop, List.length_take]; rfl)) ?_; (with_reducible refine (spec_l6Rd_pick.calls k g123 t121 t129 16 t130 t131 w _ ?side1 ?side2 A6.out).mono ?_); (case side1 => repeat (first | (with_reducible first | exact HI123.out | apply IsS129.alloc | apply IsS129.drewN | apply IsS129.drew | apply IsS129.set_1) | exact HI123.out)); (case side2 => repeat (first | (with_reducible first | exact HB.out | apply below_alloc | apply pw_below_drewN | apply below_drew1 | refine below_set ?_ (IsS129.ge HI123.out)) | exact HB.out)); rintro e w11 ⟨rfl, hi, hb, hk⟩; refine ⟨_, rfl, ?_⟩; have n0_ := Aside0.mk (hb); have n1_ := Aside0.mk (hi); clear HB; clear HI123; have HB := n0_; have HI123 := n1_; clear n0_ n1_; (try clear hb); (try clear hb2); (try clear hk); (try clear hi)))
 go_ret2
 exact ⟨by first | rfl | (simp [errW_none, errW_some] <;> rfl) | (simp [*, errW_none, errW_some] <;> rfl), by repeat (first | (with_reducible first | exact HB.out | apply below_alloc | apply pw_below_drewN | apply below_drew1 | refine below_set ?_ (IsS129.ge HI123.out)) | exact HB.out)⟩

end Go.Proofs.YtddbahlofgkoaaaDoor.PA
namespace Go.Proofs.YtddbahlofgkoaaaDoor.PA
open Go.RowKit Go.Proofs.YtddbahlofgkoaaaDoorW.PrintWords Go.Proofs.YtddbahlofgkoaaaDoorW.PrintLast Go.Proofs.YtddbahlofgkoaaaDoorW.PrintMore
attribute [local go_sem] max2_int min2_int max_two min_two max_three min_three max_four min_four   -- for this text's walks alone
set_option linter.unusedVariables false
set_option linter.unusedSimpArgs false

/-! ### impl_FracOf: function 27 -/
def impl_FracOf.f (k : Nat) (a0 : Int) (a1 : Int) : Option (Int × Int × Bool) := if a0 < 0 then (some (0, 0, false)) else (if a0 > 99999 then (some (0, 0, false)) else (if a1 < 1 then (some (0, 0, false)) else (if a1 > 99999 then (some (0, 0, false)) else ((impl_commonDivisor.f k a0 a1).bind fun t140 => (if t140 = 0 then (none) else (some (wrap64 (Int.tdiv a0 t140), wrap64 (Int.tdiv a1 t140), true)))))))
theorem impl_FracOf.mono : ∀ a0 a1 k, LeO (impl_FracOf.f k a0 a1) (impl_FracOf.f (k + 1) a0 a1) := by
 intro a0 a1 k; unfold impl_FracOf.f; repeat' first
   | (with_reducible exact impl_commonDivisor.mono _ _ _)
   | (with_reducible exact LeO.refl _)
   | (with_reducible exact LeO.none _)
   | (with_reducible refine LeO.ite ?_ ?_)
   | (with_reducible refine LeO.bind ?_ (fun _ => ?_))
   | exact impl_commonDivisor.mono _ _ _
   | exact LeO.none _
   | refine LeO.ite ?_ ?_
   | refine LeO.bind ?_ (fun _ => ?_)
def impl_FracOf.T4 : Bool × List (List Nat × List Nat) := (true, [([], []), ([], []), ([0, 1], [0, 1]), ([], []), ([], []), ([3, 4], [3, 4]), ([2, 5], [2, 5]), ([6, 0, 1, 2, 3, 4, 5, 6], [6]), ([7, 0, 1, 2, 3, 4, 5, 6, 7], [])])
def impl_FracOf.B4 : List Nat := [0, 0, 3, 0, 0, 24, 63, 127, 255]
theorem impl_FracOf.tab4 : rtab .any (opsOf Tryd.f27 4) = impl_FracOf.T4 := by kernel_rfl
theorem impl_FracOf.bits4 : waitsOk impl_FracOf.T4.2 impl_FracOf.B4 = true := by kernel_rfl
set_option maxHeartbeats 8000000 in
set_option maxRecDepth 100000 in
theorem impl_FracOf.calls (k : Nat) (a0 : Int) (a1 : Int) (r1 : Int) (r2 : Int) (r3 : Bool) (w : World) (h : impl_FracOf.f k a0 a1 = some (r1, r2, r3)) :
  Calls Tryd.prog 27 #[.int .i64 a0, .int .i64 a1] w fun e w' => e = .returned (.tuple #[.agg #[.int .i64 r1, .int .i64 r2], .bool r3]) ∧ Below w.heap.size w w' := by
 have hu38 := Tryd.underlying38; have HB := Aside0.mk (Below.refl w.heap.size w); have H : (if a0 < 0 then (some (0, 0, false)) else (if a0 > 99999 then (some (0, 0, false)) else (if a1 < 1 then (some (0, 0, false)) else (if a1 > 99999 then (some (0, 0, false)) else ((impl_commonDivisor.f k a0 a1).bind fun t140 => (if t140 = 0 then (none) else (some (wrap64 (Int.tdiv a0 t140), wrap64 (Int.tdiv a1 t140), true)))))))) = some (r1, r2, r3) := h; clear h; by_cases c3 : a0 < 0
 ·rw [if_pos c3] at H; have c3b0 : decide (a0 < 0) = true := decide_eq_true c3; clear c3; simp only [Option.some.injEq, Prod.mk.injEq] at H; obtain ⟨rfl, rfl, rfl⟩ := H; go_enter Tryd.func27, Tryd.ntmps27
  go_wp2_with (first | ((with_reducible refine gate_dst (N := 4) rfl ?_); refine box_event ?hg (N := 4) ?hd (cs := #[.int .i64 0, .int .i64 0]) (t := 38) ?hr ?_; (case hd => rfl); (case hg => rfl); (case hr => first | (go_simp; done) | (go_simp; rfl)); intro gb139 hg w4 hbox hb; have n0_ := Aside0.mk (below_step (by repeat (first | (with_reducible first | exact HB.out | apply below_alloc | apply pw_below_drewN | apply below_drew1) | exact HB.out)) hb); have n1_ := Aside0.mk (hbox); have n2_ := Aside0.mk ((by rw [hg]; exact (below_size (by repeat (first | (with_reducible first | exact HB.out | apply below_alloc | apply pw_below_drewN | apply below_drew1) | exact HB.out))) : w.heap.size ≤ gb139)); have n3_ := Aside0.mk ((by rw [hg]; exact (below_size (by repeat (first | (with_reducible first | exact HB.out | apply below_alloc | apply pw_below_drewN | apply below_drew1) | exact HB.out))) : w.heap.size ≤ gb139)); clear HB; have HB := n0_; have BK139 := n1_; have GW139 := n2_; have GE139 := n3_; clear n0_ n1_ n2_ n3_; clear hb hbox hg; have hcz5_0 : w4.cell? ⟨gb139, 0, none⟩ = some (.int .i64 0) := (blk_cell BK139.out 0).trans rfl; have hcz5_1 : w4.cell? ⟨gb139, 1, none⟩ = some (.int .i64 0) := (blk_cell BK139.out 1).trans rfl; have hfz5_0 := blk_frozen BK139.out 0; have hfz5_1 := blk_frozen BK139.out 1))
  refine bodyPost_ret (results_ct rfl _ _ gb139 38 #[.int .i64 0, .int .i64 0] (0, 0) _ rfl (by (with_reducible repeat (first | refine blk_drewN ?_ _ | refine blk_drew ?_ | refine blk_alloc ?_ _)); refine blk_put (cs := #[.int .i64 0, .int .i64 0]) ?_ 1 _ rfl; (with_reducible repeat (first | refine blk_drewN ?_ _ | refine blk_drew ?_ | refine blk_alloc ?_ _)); refine blk_put (cs := #[.int .i64 0, .int .i64 0]) ?_ 0 _ rfl; (with_reducible repeat (first | refine blk_drewN ?_ _ | refine blk_drew ?_ | refine blk_alloc ?_ _)); exact BK139.out) Tryd.underlying38 rfl (by kernel_rfl)) rfl ?_; exact ⟨by first | rfl | (simp [errW_none, errW_some] <;> rfl) | (simp [*, errW_none, errW_some] <;> rfl), by repeat (first | (with_reducible first | exact HB.out | apply below_alloc | apply pw_below_drewN | apply below_drew1 | refine below_set ?_ GE139.out) | exact HB.out)⟩
 ·rw [if_neg c3] at H; have c3b0 : decide (a0 < 0) = false := decide_eq_false c3; clear c3; by_cases c6 : a0 > 99999
  ·rw [if_pos c6] at H; have c6b0 : decide (99999 < a0) = true := decide_eq_true c6; clear c6; simp only [Option.some.injEq, Prod.mk.injEq] at H; obtain ⟨rfl, rfl, rfl⟩ := H; go_enter Tryd.func27, Tryd.ntmps27
   go_wp2_with (first | ((with_reducible refine gate_dst (N := 4) rfl ?_); refine box_event ?hg (N := 4) ?hd (cs := #[.int .i64 0, .int .i64 0]) (t := 38) ?hr ?_; (case hd => rfl); (case hg => rfl); (case hr => first | (go_simp; done) | (go_simp; rfl)); intro gb139 hg w7 hbox hb; have n0_ := Aside0.mk (below_step (by repeat (first | (with_reducible first | exact HB.out | apply below_alloc | apply pw_below_drewN | apply below_drew1) | exact HB.out)) hb); have n1_ := Aside0.mk (hbox); have n2_ := Aside0.mk ((by rw [hg]; exact (below_size (by repeat (first | (with_reducible first | exact HB.out | apply below_alloc | apply pw_below_drewN | apply below_drew1) | exact HB.out))) : w.heap.size ≤ gb139)); have n3_ := Aside0.mk ((by rw [hg]; exact (below_size (by repeat (first | (with_reducible first | exact HB.out | apply below_alloc | apply pw_below_drewN | apply below_drew1) | exact HB.out))) : w.heap.size ≤ gb139)); clear HB; have HB := n0_; have BK139 := n1_; have GW139 := n2_; have GE139 := n3_; clear n0_ n1_ n2_ n3_; clear hb hbox hg; have hcz8_0 : w7.cell? ⟨gb139, 0, none⟩ = some (.int .i64 0) := (blk_cell BK139.out 0).trans rfl; have hcz8_1 : w7.cell? ⟨gb139, 1, none⟩ = some (.int .i64 0) := (blk_cell BK139.out 1).trans rfl; have hfz8_0 := blk_frozen BK139.out 0; have hfz8_1 := blk_frozen BK139.out 1))
   refine bodyPost_ret (results_ct rfl _ _ gb139 38 #[.int .i64 0, .int .i64 0] (0, 0) _ rfl (by (with_reducible repeat (first | refine blk_drewN ?_ _ | refine blk_drew ?_ | refine blk_alloc ?_ _)); refine blk_put (cs := #[.int .i64 0, .int .i64 0]) ?_ 1 _ rfl; (with_reducible repeat (first | refine blk_drewN ?_ _ | refine blk_drew ?_ | refine blk_alloc ?_ _)); refine blk_put (cs := #[.int .i64 0, .int .i64 0]) ?_ 0 _ rfl; (with_reducible repeat (first | refine blk_drewN ?_ _ | refine blk_drew ?_ | refine blk_alloc ?_ _)); exact BK139.out) Tryd.underlying38 rfl (by kernel_rfl)) rfl ?_; exact ⟨by first | rfl | (simp [errW_none, errW_some] <;> rfl) | (simp [*, errW_none, errW_some] <;> rfl), by repeat (first | (with_reducible first | exact HB.out | apply below_alloc | apply pw_below_drewN | apply below_drew1 | refine below_set ?_ GE139.out) | exact HB.out)⟩
  ·rw [if_neg c6] at H; have c6b0 : decide (99999 < a0) = false := decide_eq_false c6; clear c6; by_cases c9 : a1 < 1
   ·rw [if_pos c9] at H; have c9b0 : decide (a1 < 1) = true := decide_eq_true c9; clear c9; simp only [Option.some.injEq, Prod.mk.injEq] at H; obtain ⟨rfl, rfl, rfl⟩ := H; go_enter Tryd.func27, Tryd.ntmps27
    go_wp2_with (first | ((with_reducible refine gate_dst (N := 4) rfl ?_); refine box_event ?hg (N := 4) ?hd (cs := #[.int .i64 0, .int .i64 0]) (t := 38) ?hr ?_; (case hd => rfl); (case hg => rfl); (case hr => first | (go_simp; done) | (go_simp; rfl)); intro gb139 hg w10 hbox hb; have n0_ := Aside0.mk (below_step (by repeat (first | (with_reducible first | exact HB.out | apply below_alloc | apply pw_below_drewN | apply below_drew1) | exact HB.out)) hb); have n1_ := Aside0.mk (hbox); have n2_ := Aside0.mk ((by rw [hg]; exact (below_size (by repeat (first | (with_reducible first | exact HB.out | apply below_alloc | apply pw_below_drewN | apply below_drew1) | exact HB.out))) : w.heap.size ≤ gb139)); have n3_ := Aside0.mk ((by rw [hg]; exact (below_size (by repeat (first | (with_reducible first | exact HB.out | apply below_alloc | apply pw_below_drewN | apply below_drew1) | exact HB.out))) : w.heap.size ≤ gb139)); clear HB; have HB := n0_; have BK139 := n1_; have GW139 := n2_; have GE139 := n3_; clear n0_ n1_ n2_ n3_; clear hb hbox hg; have hcz11_0 : w10.cell? ⟨gb139, 0, none⟩ = some (.int .i64 0) := (blk_cell BK139.out 0).trans rfl; have hcz11_1 : w10.cell? ⟨gb139, 1, none⟩ = some (.int .i64 0) := (blk_cell BK139.out 1).trans rfl; have hfz11_0 := blk_frozen BK139.out 0; have hfz11_1 := blk_frozen BK139.out 1))
    refine bodyPost_ret (results_ct rfl _ _ gb139 38 #[.int .i64 0, .int .i64 0] (0, 0) _ rfl (by (with_reducible repeat (first | refine blk_drewN ?_ _ | refine blk_drew ?_ | refine blk_alloc ?_ _)); refine blk_put (cs := #[.int .i64 0, .int .i64 0]) ?_ 1 _ rfl; (with_reducible repeat (first | refine blk_drewN ?_ _ | refine blk_drew ?_ | refine blk_alloc ?_ _)); refine blk_put (cs := #[.int .i64 0, .int .i64 0]) ?_ 0 _ rfl; (with_reducible repeat (first | refine blk_drewN ?_ _ | refine blk_drew ?_ | refine blk_alloc ?_ _)); exact BK139.out) Tryd.underlying38 rfl (by kernel_rfl)) rfl ?_; exact ⟨by first | rfl | (simp [errW_none, errW_some] <;> rfl) | (simp [*, errW_none, errW_some] <;> rfl), by repeat (first | (with_reducible first | exact HB.out | apply below_alloc | apply pw_below_drewN | apply below_drew1 | refine below_set ?_ GE139.out) | exact HB.out)⟩
   ·rw [if_neg c9] at H; have c9b0 : decide (a1 < 1) = false := decide_eq_false c9; clear c9; by_cases c12 : a1 > 99999
    ·rw [if_pos c12] at H; have c12b0 : decide (99999 < a1) = true := decide_eq_true c12; clear c12; simp only [Option.some.injEq, Prod.mk.injEq] at H; obtain ⟨rfl, rfl, rfl⟩ := H; go_enter Tryd.func27, Tryd.ntmps27
     go_wp2_with (first | ((with_reducible refine gate_dst (N := 4) rfl ?_); refine box_event ?hg (N := 4) ?hd (cs := #[.int .i64 0, .int .i64 0]) (t := 38) ?hr ?_; (case hd => rfl); (case hg => rfl); (case hr => first | (go_simp; done) | (go_simp; rfl)); intro gb139 hg w13 hbox hb; have n0_ := Aside0.mk (below_step (by repeat (first | (with_reducible first | exact HB.out | apply below_alloc | apply pw_below_drewN | apply below_drew1) | exact HB.out)) hb); have n1_ := Aside0.mk (hbox); have n2_ := Aside0.mk ((by rw [hg]; exact (below_size (by repeat (first | (with_reducible first | exact HB.out | apply below_alloc | apply pw_below_drewN | apply below_drew1) | exact HB.out))) : w.heap.size ≤ gb139)); have n3_ := Aside0.mk ((by rw [hg]; exact (below_size (by repeat (first | (with_reducible first | exact HB.out | apply below_alloc | apply pw_below_drewN | apply below_drew1) | exact HB.out))) : w.heap.size ≤ gb139)); clear HB; have HB := n0_; have BK139 := n1_; have GW139 := n2_; have GE139 := n3_; clear n0_ n1_ n2_ n3_; clear hb hbox hg; have hcz14_0 : w13.cell? ⟨gb139, 0, none⟩ = some (.int .i64 0) := (blk_cell BK139.out 0).trans rfl; have hcz14_1 : w13.cell? ⟨gb139, 1, none⟩ = some (.int .i64 0) := (blk_cell BK139.out 1).trans rfl; have hfz14_0 := blk_frozen BK139.out 0; have hfz14_1 := blk_frozen BK139.out 1))
     refine bodyPost_ret (results_ct rfl _ _ gb139 38 #[.int .i64 0, .int .i64 0] (0, 0) _ rfl (by (with_reducible repeat (first | refine blk_drewN ?_ _ | refine blk_drew ?_ | refine blk_alloc ?_ _)); refine blk_put (cs := #[.int .i64 0, .int .i64 0]) ?_ 1 _ rfl; (with_reducible repeat (first | refine blk_drewN ?_ _ | refine blk_drew ?_ | refine blk_alloc ?_ _)); refine blk_put (cs := #[.int .i64 0, .int .i64 0]) ?_ 0 _ rfl; (with_reducible repeat (first | refine blk_drewN ?_ _ | refine blk_drew ?_ | refine blk_alloc ?_ _)); exact BK139.out) Tryd.underlying38 rfl (by kernel_rfl)) rfl ?_; exact ⟨by first | rfl | (simp [errW_none, errW_some] <;> rfl) | (simp [*, errW_none, errW_some] <;> rfl), by repeat (first | (with_reducible first | exact HB.out | apply below_alloc | apply pw_below_drewN | apply below_drew1 | refine below_set ?_ GE139.out) | exact HB.out)⟩
    ·rw [if_neg c12] at H; have c12b0 : decide (99999 < a1) = false := decide_eq_false c12; clear c12; replace H := Option.bind_eq_some_iff.mp H; obtain ⟨t140, A150, H⟩ := H; replace H : (if t140 = 0 then (none) else (some (wrap64 (Int.tdiv a0 t140), wrap64 (Int.tdiv a1 t140), true))) = some (r1, r2, r3) := H; have A15 := Aside0.mk A150; clear A150; by_cases c16 : t140 = 0
     ·rw [if_pos c16] at H; exact absurd H (by simp)
     ·rw [if_neg c16] at H; have c16b0 : (t140 == 0) = false := beq_eq_false_iff_ne.mpr c16; have c16b1 : (t140 != 0) = true := bne_iff_ne.mpr c16; simp only [Option.some.injEq, Prod.mk.injEq] at H; obtain ⟨rfl, rfl, rfl⟩ := H; go_enter Tryd.func27, Tryd.ntmps27
      try go_wp2_with (first | ((with_reducible refine gate_dst (N := 4) rfl ?_); refine box_event ?hg (N := 4) ?hd (cs := #[.int .i64 0, .int .i64 0]) (t := 38) ?hr ?_; (case hd => rfl); (case hg => rfl); (case hr => first | (go_simp; done) | (go_simp; rfl)); intro gb139 hg w17 hbox hb; have n0_ := Aside0.mk (below_step (by repeat (first | (with_reducible first | exact HB.out | apply below_alloc | apply pw_below_drewN | apply below_drew1) | exact HB.out)) hb); have n1_ := Aside0.mk (hbox); have n2_ := Aside0.mk ((by rw [hg]; exact (below_size (by repeat (first | (with_reducible first | exact HB.out | apply below_alloc | apply pw_below_drewN | apply below_drew1) | exact HB.out))) : w.heap.size ≤ gb139)); have n3_ := Aside0.mk ((by rw [hg]; exact (below_size (by repeat (first | (with_reducible first | exact HB.out | apply below_alloc | apply pw_below_drewN | apply below_drew1) | exact HB.out))) : w.heap.size ≤ gb139)); clear HB; have HB := n0_; have BK139 := n1_; have GW139 := n2_; have GE139 := n3_; clear n0_ n1_ n2_ n3_; clear hb hbox hg) | ((with_reducible refine gate_callee (f := 61) rfl ?_); refine goesL_ (some 24) rfl rfl Tryd.func61 (by kernel_rfl) rfl #[.int .i64 a0, .int .i64 a1] rfl (by (try simp only [List.map_toArray, List.map_cons, List.map_nil]); first | done | rfl | (simp only [List.length_drop, List.length_take]; rfl)) ?_; (with_reducible refine (impl_commonDivisor.calls k a0 a1 t140 _ A15.out).mono ?_); rintro e w' ⟨rfl, ⟨nd, rfl⟩⟩; refine ⟨_, rfl, ?_⟩; (try (rw [drewN_self w17]; generalize hq_ : World.drewN w17 _ = w17; have n0_ : Aside0 (w17.heap[gb139]? = some (.cells #[.int .i64 0, .int .i64 0] 38 (0, 0))) := ⟨by rw [← hq_]; exact (by (with_reducible repeat (first | refine blk_drewN ?_ _ | refine blk_drew ?_ | refine blk_alloc ?_ _)); exact BK139.out)⟩; have n1_ : Aside0 (Below w.heap.size w w17) := ⟨by rw [← hq_]; exact (by repeat (first | (with_reducible first | exact HB.out | apply below_alloc | apply pw_below_drewN | apply below_drew1 | refine below_set ?_ GE139.out) | exact HB.out))⟩; clear BK139 HB hq_; have BK139 := n0_; have HB := n1_; clear n0_ n1_))))
      have n0_ := Aside0.mk (blk_drew BK139.out); have n1_ := Aside0.mk (below_drew1 HB.out); clear BK139; clear HB; have BK139 := n0_; have HB := n1_; clear n0_ n1_; refine start_ (n := 9) (S := fun w' => True) (ds := []) #[false, false, false, false, false, false, false, false, false] (by kernel_rfl) rfl rfl trivial (fun hHeld => ?_); refine with_tabW impl_FracOf.tab4 impl_FracOf.bits4 (fun HT_ HW_ => ?_)
      generalize w17.drew = w18 at BK139 HB hHeld ⊢
      refine pu_ HT_.out 0 25 {} ?_; refine pu_ HT_.out 1 26 {} ?_; refine pu_ HT_.out 2 27 {} ?_; refine pu_ HT_.out 3 28 {} ?_; refine pu_ HT_.out 4 29 {} ?_; refine pu_ HT_.out 5 30 {} ?_; refine pu_ HT_.out 6 31 {} ?_
      refine one_ (i := 7) (N := none) #[true, true, true, true, true, true, true, true, false] rfl rfl (one_of HT_.out (by kernel_rfl)) (by decide) (fun K hK => ?_); have hs19 : w18.cell? ⟨gb139, 0, none⟩ = some (.int .i64 0) := (blk_cell BK139.out 0).trans rfl; have hfs19 := blk_frozen BK139.out 0; have hs20 : w18.cell? ⟨gb139, 1, none⟩ = some (.int .i64 0) := (blk_cell BK139.out 1).trans rfl; have hfs20 := blk_frozen BK139.out 1; refine skip_ (w1 := ?_) (by rfl) rfl ?_ ?_; rotate_left; ·go_simp; rfl
      refine hK.out _ _ trivial (fun hHeld => ?_); clear hK K; refine pu_ HT_.out 8 5 {} ?_
      refine done_ (done_of HT_.out (by kernel_rfl)) ?_; try go_wp2
      refine bodyPost_ret (results_ct rfl _ _ gb139 38 #[.int .i64 (wrap64 (Int.tdiv a0 t140)), .int .i64 (wrap64 (Int.tdiv a1 t140))] (0, 0) _ rfl (by (with_reducible repeat (first | refine blk_drewN ?_ _ | refine blk_drew ?_ | refine blk_alloc ?_ _)); refine blk_put (cs := #[.int .i64 (wrap64 (Int.tdiv a0 t140)), .int .i64 0]) ?_ 1 _ rfl; (with_reducible repeat (first | refine blk_drewN ?_ _ | refine blk_drew ?_ | refine blk_alloc ?_ _)); refine blk_put (cs := #[.int .i64 0, .int .i64 0]) ?_ 0 _ rfl; (with_reducible repeat (first | refine blk_drewN ?_ _ | refine blk_drew ?_ | refine blk_alloc ?_ _)); exact BK139.out) Tryd.underlying38 rfl (by kernel_rfl)) rfl ?_; exact ⟨by first | rfl | (simp [errW_none, errW_some] <;> rfl) | (simp [*, errW_none, errW_some] <;> rfl), by repeat (first | (with_reducible first | exact HB.out | apply below_alloc | apply pw_below_drewN | apply below_drew1 | refine below_set ?_ GE139.out) | exact HB.out)⟩

end Go.Proofs.YtddbahlofgkoaaaDoor.PA
namespace Go.Proofs.YtddbahlofgkoaaaDoor.PA
open Go.RowKit Go.Proofs.YtddbahlofgkoaaaDoorW.PrintWords Go.Proofs.YtddbahlofgkoaaaDoorW.PrintLast Go.Proofs.YtddbahlofgkoaaaDoorW.PrintMore
attribute [local go_sem] max2_int min2_int max_two min_two max_three min_three max_four min_four   -- for this text's walks alone
set_option linter.unusedVariables false
set_option linter.unusedSimpArgs false

attribute [local go_sem high] eqA38
/-! ### laws_FnFracOf: function 6 -/
mutual
def laws_FnFracOf.j0 : Nat → List Int → List Int → Bool → Option (Bool)
 | 0, _, _, _ => none
 | k + 1, x0, x1, x21 => if x21 = true then (some true) else ((spec_DrawFracOf.f k x0).bind fun bt141 => ((spec_FracOf.f k bt141.1 bt141.2).bind fun bt143 => ((impl_FracOf.f k bt141.1 bt141.2).bind fun bt147 => (if (bt147.2.2 != bt143.2.2) = true then (laws_FnFracOf.j1 k x1 bt141.1 bt141.2 bt143.2.2 bt147.2.2 true bt143.1 bt143.2.1 bt147.1 bt147.2.1) else (if (!(bt147.1 == bt143.1) || (!(bt147.2.1 == bt143.2.1))) = true then (laws_FnFracOf.j1 k x1 bt141.1 bt141.2 bt143.2.2 bt147.2.2 true bt143.1 bt143.2.1 bt147.1 bt147.2.1) else (laws_FnFracOf.j1 k x1 bt141.1 bt141.2 bt143.2.2 bt147.2.2 (!bt147.2.2) bt143.1 bt143.2.1 bt147.1 bt147.2.1))))))
def laws_FnFracOf.j1 : Nat → List Int → Int → Int → Bool → Bool → Bool → Int → Int → Int → Int → Option (Bool)
 | 0, _, _, _, _, _, _, _, _, _, _ => none
 | k + 1, x1, x5, x6, x8, x10, x50, x147000, x147001, x151000, x151001 => if x50 = true then (if (x10 == x8) = true then (some (x151000 == x147000 && (x151001 == x147001))) else (some false)) else ((impl_FracOf.f k (wrap64 (x5 * (1 + ((x1.length : Int) % 9)))) (wrap64 (x6 * (1 + ((x1.length : Int) % 9))))).bind fun bt151 => ((impl_FracOk.f k x151000 x151001).bind fun t155 => (if t155 = true then (if (wrap64 (x151000 * x6)) = (wrap64 (x5 * x151001)) then (if (bt151.1 == x151000 && (bt151.2.1 == x151001)) = true then (if (wrap64 (x5 * (1 + ((x1.length : Int) % 9)))) ≤ 99999 then (some (bt151.2.2 == (decide ((wrap64 (x6 * (1 + ((x1.length : Int) % 9)))) ≤ 99999)))) else (some (bt151.2.2 == false))) else (if bt151.2.2 = true then (some false) else (if (wrap64 (x5 * (1 + ((x1.length : Int) % 9)))) ≤ 99999 then (some (bt151.2.2 == (decide ((wrap64 (x6 * (1 + ((x1.length : Int) % 9)))) ≤ 99999)))) else (some (bt151.2.2 == false))))) else (some false)) else (some false))))
end
def laws_FnFracOf.f (k : Nat) (l0 : List Int) (l1 : List Int) : Option (Bool) := if (l0.length : Int) > 1048576 then (laws_FnFracOf.j0 k l0 l1 true) else (laws_FnFracOf.j0 k l0 l1 (decide ((l1.length : Int) > 1048576)))
theorem laws_FnFracOf.mono_l : ∀ k, (∀ y0 y1 y2, LeO (laws_FnFracOf.j0 k y0 y1 y2) (laws_FnFracOf.j0 (k + 1) y0 y1 y2)) ∧ (∀ y0 y1 y2 y3 y4 y5 y6 y7 y8 y9, LeO (laws_FnFracOf.j1 k y0 y1 y2 y3 y4 y5 y6 y7 y8 y9) (laws_FnFracOf.j1 (k + 1) y0 y1 y2 y3 y4 y5 y6 y7 y8 y9))
 | 0 => ⟨fun _ _ _ r h => by simp [laws_FnFracOf.j0] at h, fun _ _ _ _ _ _ _ _ _ _ r h => by simp [laws_FnFracOf.j1] at h⟩
 | k + 1 => by
  obtain ⟨ih0, ih1⟩ := laws_FnFracOf.mono_l k; refine ⟨?_, ?_⟩
  ·intro y0 y1 y2; unfold laws_FnFracOf.j0; repeat' first
   | (with_reducible exact ih0 _ _ _)
   | (with_reducible exact ih1 _ _ _ _ _ _ _ _ _ _)
   | (with_reducible exact impl_FracOf.mono _ _ _)
   | (with_reducible exact impl_FracOk.mono _ _ _)
   | (with_reducible exact spec_DrawFracOf.mono _ _)
   | (with_reducible exact spec_FracOf.mono _ _ _)
   | (with_reducible exact LeO.refl _)
   | (with_reducible exact LeO.none _)
   | (with_reducible refine LeO.ite ?_ ?_)
   | (with_reducible refine LeO.bind ?_ (fun _ => ?_))
   | exact ih0 _ _ _
   | exact ih1 _ _ _ _ _ _ _ _ _ _
   | exact impl_FracOf.mono _ _ _
   | exact impl_FracOk.mono _ _ _
   | exact spec_DrawFracOf.mono _ _
   | exact spec_FracOf.mono _ _ _
   | exact LeO.none _
   | refine LeO.ite ?_ ?_
   | refine LeO.bind ?_ (fun _ => ?_)
  ·intro y0 y1 y2 y3 y4 y5 y6 y7 y8 y9; unfold laws_FnFracOf.j1; repeat' first
   | (with_reducible exact ih0 _ _ _)
   | (with_reducible exact ih1 _ _ _ _ _ _ _ _ _ _)
   | (with_reducible exact impl_FracOf.mono _ _ _)
   | (with_reducible exact impl_FracOk.mono _ _ _)
   | (with_reducible exact spec_DrawFracOf.mono _ _)
   | (with_reducible exact spec_FracOf.mono _ _ _)
   | (with_reducible exact LeO.refl _)
   | (with_reducible exact LeO.none _)
   | (with_reducible refine LeO.ite ?_ ?_)
   | (with_reducible refine LeO.bind ?_ (fun _ => ?_))
   | exact ih0 _ _ _
   | exact ih1 _ _ _ _ _ _ _ _ _ _
   | exact impl_FracOf.mono _ _ _
   | exact impl_FracOk.mono _ _ _
   | exact spec_DrawFracOf.mono _ _
   | exact spec_FracOf.mono _ _ _
   | exact LeO.none _
   | refine LeO.ite ?_ ?_
   | refine LeO.bind ?_ (fun _ => ?_)
theorem laws_FnFracOf.mono : ∀ a0 a1 k, LeO (laws_FnFracOf.f k a0 a1) (laws_FnFracOf.f (k + 1) a0 a1) := by
 intro a0 a1 k; obtain ⟨ih0, ih1⟩ := laws_FnFracOf.mono_l k; unfold laws_FnFracOf.f; repeat' first
   | (with_reducible exact ih0 _ _ _)
   | (with_reducible exact ih1 _ _ _ _ _ _ _ _ _ _)
   | (with_reducible exact impl_FracOf.mono _ _ _)
   | (with_reducible exact impl_FracOk.mono _ _ _)
   | (with_reducible exact spec_DrawFracOf.mono _ _)
   | (with_reducible exact spec_FracOf.mono _ _ _)
   | (with_reducible exact LeO.refl _)
   | (with_reducible exact LeO.none _)
   | (with_reducible refine LeO.ite ?_ ?_)
   | (with_reducible refine LeO.bind ?_ (fun _ => ?_))
   | exact ih0 _ _ _
   | exact ih1 _ _ _ _ _ _ _ _ _ _
   | exact impl_FracOf.mono _ _ _
   | exact impl_FracOk.mono _ _ _
   | exact spec_DrawFracOf.mono _ _
   | exact spec_FracOf.mono _ _ _
   | exact LeO.none _
   | refine LeO.ite ?_ ?_
   | refine LeO.bind ?_ (fun _ => ?_)
set_option maxHeartbeats 8000000 in
set_option maxRecDepth 100000 in
theorem laws_FnFracOf.calls (k : Nat) (A0 : Option Addr) (c0 : Nat) (l0 : List Int) (A1 : Option Addr) (c1 : Nat) (l1 : List Int) (r : Bool) (w : World) (hE : ErrCell w) (hr0 : Kd.C (Kd.int .u8) w A0 l0.length l0) (hc0 : l0.length ≤ c0) (hr1 : Kd.C (Kd.int .u8) w A1 l1.length l1) (hc1 : l1.length ≤ c1) (h : laws_FnFracOf.f k l0 l1 = some r) :
  Calls Tryd.prog 6 #[.slice A0 l0.length c0, .slice A1 l1.length c1] w fun e w' => e = .returned (.bool r) ∧ Below w.heap.size w w' := by
 have HE_ := Aside0.mk hE; clear hE
 have hu38 := Tryd.underlying38; have HR0 := Aside0.mk hr0; have HC0 := Aside0.mk hc0; clear hr0 hc0; have HR1 := Aside0.mk hr1; have HC1 := Aside0.mk hc1; clear hr1 hc1; have HB := Aside0.mk (Below.refl w.heap.size w); have H : (if (l0.length : Int) > 1048576 then (laws_FnFracOf.j0 k l0 l1 true) else (laws_FnFracOf.j0 k l0 l1 (decide ((l1.length : Int) > 1048576)))) = some r := h; clear h; have HC3 := Aside0.mk H; clear H; go_enter Tryd.func6, Tryd.ntmps6
 go_upto_region 1 with (fail)
 go_cut [21] (fun v21 wc => ∃ (kq : Nat) (x21_2 : Bool), v21 = .bool x21_2 ∧ Aside0 (laws_FnFracOf.j0 kq l0 l1 x21_2 = some r) ∧ Aside0 (kq ≤ k) ∧ Aside0 (Below w.heap.size w wc))
 case first =>
  have H := HC3.out; clear HC3; by_cases c4 : (l0.length : Int) > 1048576
  ·rw [if_pos c4] at H; have c4b0 : decide (1048576 < (l0.length : Int)) = true := decide_eq_true c4; have c4b1 : decide (1048576 < l0.length) = true := decide_eq_true (by omega); clear c4; (first | rw [c4b0] | (simp only [i64_w, i32_w]; rw [c4b0]) | skip); have H' := Aside0.mk H; clear H; go_wp2
   go_meet
   case rel => exact ⟨_, (true), (by first | rfl | (simp; done) | (simp [*]; done)), H', ⟨by first | omega | exact Nat.le_refl _⟩, ⟨by repeat (first | (with_reducible first | exact HB.out | apply below_alloc | apply pw_below_drewN | apply below_drew1) | exact HB.out)⟩⟩
  ·rw [if_neg c4] at H; have c4b0 : decide (1048576 < (l0.length : Int)) = false := decide_eq_false c4; have c4b1 : decide (1048576 < l0.length) = false := decide_eq_false (by omega); clear c4; (first | rw [c4b0] | (simp only [i64_w, i32_w]; rw [c4b0]) | skip); have H' := Aside0.mk H; clear H; go_wp2
   go_meet
   case rel => exact ⟨_, (decide ((l1.length : Int) > 1048576)), (by first | rfl | (simp; done) | (simp [*]; done)), H', ⟨by first | omega | exact Nat.le_refl _⟩, ⟨by repeat (first | (with_reducible first | exact HB.out | apply below_alloc | apply pw_below_drewN | apply below_drew1) | exact HB.out)⟩⟩
 case rest =>
  clear HC3; try clear c1
  try clear p2
  try clear c4
  try clear c4b0
  try clear c4b1
  obtain ⟨kq, x21_2, rfl, HA, HJ2, HB⟩ := hcut; cases kq with
  | zero => exact absurd HA.out (by simp [laws_FnFracOf.j0])
  | succ kj2 =>
   have H := HA.out; clear HA; simp only [laws_FnFracOf.j0] at H; by_cases c5 : x21_2 = true
   ·subst c5; have H1 : (some true) = some r := by rw [if_pos rfl] at H; exact H
    clear H; have H := H1; clear H1; obtain rfl := Option.some.inj H; go_wp2
    go_ret
    exact ⟨by first | rfl | (simp [errW_none, errW_some] <;> rfl) | (simp [*, errW_none, errW_some] <;> rfl), by repeat (first | (with_reducible first | exact HB.out | apply below_alloc | apply pw_below_drewN | apply below_drew1) | exact HB.out)⟩
   ·replace c5 := Bool.eq_false_iff.mpr c5; subst c5; have H1 : ((spec_DrawFracOf.f kj2 l0).bind fun bt141 => ((spec_FracOf.f kj2 bt141.1 bt141.2).bind fun bt143 => ((impl_FracOf.f kj2 bt141.1 bt141.2).bind fun bt147 => (if (bt147.2.2 != bt143.2.2) = true then (laws_FnFracOf.j1 kj2 l1 bt141.1 bt141.2 bt143.2.2 bt147.2.2 true bt143.1 bt143.2.1 bt147.1 bt147.2.1) else (if (!(bt147.1 == bt143.1) || (!(bt147.2.1 == bt143.2.1))) = true then (laws_FnFracOf.j1 kj2 l1 bt141.1 bt141.2 bt143.2.2 bt147.2.2 true bt143.1 bt143.2.1 bt147.1 bt147.2.1) else (laws_FnFracOf.j1 kj2 l1 bt141.1 bt141.2 bt143.2.2 bt147.2.2 (!bt147.2.2) bt143.1 bt143.2.1 bt147.1 bt147.2.1)))))) = some r := by rw [if_neg (show ¬ (false = true) by decide)] at H; exact H
    clear H; have H := H1; clear H1; replace H := Option.bind_eq_some_iff.mp H; obtain ⟨⟨t141, t142⟩, A60, H⟩ := H; replace H : ((spec_FracOf.f kj2 t141 t142).bind fun bt143 => ((impl_FracOf.f kj2 t141 t142).bind fun bt147 => (if (bt147.2.2 != bt143.2.2) = true then (laws_FnFracOf.j1 kj2 l1 t141 t142 bt143.2.2 bt147.2.2 true bt143.1 bt143.2.1 bt147.1 bt147.2.1) else (if (!(bt147.1 == bt143.1) || (!(bt147.2.1 == bt143.2.1))) = true then (laws_FnFracOf.j1 kj2 l1 t141 t142 bt143.2.2 bt147.2.2 true bt143.1 bt143.2.1 bt147.1 bt147.2.1) else (laws_FnFracOf.j1 kj2 l1 t141 t142 bt143.2.2 bt147.2.2 (!bt147.2.2) bt143.1 bt143.2.1 bt147.1 bt147.2.1))))) = some r := H; have A6 := Aside0.mk A60; clear A60; replace H := Option.bind_eq_some_iff.mp H; obtain ⟨⟨t143, t144, t145⟩, A70, H⟩ := H; replace H : ((impl_FracOf.f kj2 t141 t142).bind fun bt147 => (if (bt147.2.2 != t145) = true then (laws_FnFracOf.j1 kj2 l1 t141 t142 t145 bt147.2.2 true t143 t144 bt147.1 bt147.2.1) else (if (!(bt147.1 == t143) || (!(bt147.2.1 == t144))) = true then (laws_FnFracOf.j1 kj2 l1 t141 t142 t145 bt147.2.2 true t143 t144 bt147.1 bt147.2.1) else (laws_FnFracOf.j1 kj2 l1 t141 t142 t145 bt147.2.2 (!bt147.2.2) t143 t144 bt147.1 bt147.2.1)))) = some r := H; have A7 := Aside0.mk A70; clear A70; replace H := Option.bind_eq_some_iff.mp H; obtain ⟨⟨t147, t148, t149⟩, A80, H⟩ := H; replace H : (if (t149 != t145) = true then (laws_FnFracOf.j1 kj2 l1 t141 t142 t145 t149 true t143 t144 t147 t148) else (if (!(t147 == t143) || (!(t148 == t144))) = true then (laws_FnFracOf.j1 kj2 l1 t141 t142 t145 t149 true t143 t144 t147 t148) else (laws_FnFracOf.j1 kj2 l1 t141 t142 t145 t149 (!t149) t143 t144 t147 t148))) = some r := H; have A8 := Aside0.mk A80; clear A80; have HC9 := Aside0.mk H; clear H; go_upto_region 6 with (first | ((with_reducible refine gate_callee (f := 25) rfl ?_); refine goesL_ (some 24) rfl rfl Tryd.func25 (by kernel_rfl) rfl #[.slice A0 l0.length c0] rfl (by (try simp only [List.map_toArray, List.map_cons, List.map_nil]); first | done | rfl | (simp only [List.length_drop, List.length_take]; rfl)) ?_; (with_reducible refine (spec_DrawFracOf.calls kj2 _ _ l0 t141 t142 _ ?side1 ?side2 A6.out).mono ?_); (case side1 => repeat (first | exact (Kd.C_below HR0.out HB.out) | (with_reducible refine Kd.C_alloc ?_ _) | (with_reducible refine Kd.C_drewN ?_ _) | (with_reducible refine Kd.C_drew ?_))); (case side2 => exact HC0.out); rintro e w10 ⟨rfl, hb⟩; refine ⟨_, rfl, ?_⟩; have n0_ := Aside0.mk (below_step (by repeat (first | (with_reducible first | exact HB.out | apply below_alloc | apply pw_below_drewN | apply below_drew1) | exact HB.out)) hb); clear HB; have HB := n0_; clear n0_; (try clear hb); (try clear hb2); (try clear hk); (try clear hi)) | ((with_reducible refine gate_callee (f := 26) rfl ?_); refine goesL_ (some 30) rfl rfl Tryd.func26 (by kernel_rfl) rfl #[.int .i64 t141, .int .i64 t142] rfl (by (try simp only [List.map_toArray, List.map_cons, List.map_nil]); first | done | rfl | (simp only [List.length_drop, List.length_take]; rfl)) ?_; (with_reducible refine (spec_FracOf.calls kj2 t141 t142 t143 t144 t145 _ A7.out).mono ?_); rintro e w11 ⟨rfl, hb⟩; refine ⟨_, rfl, ?_⟩; have n0_ := Aside0.mk (below_step (by repeat (first | (with_reducible first | exact HB.out | apply below_alloc | apply pw_below_drewN | apply below_drew1) | exact HB.out)) hb); clear HB; have HB := n0_; clear n0_; (try clear hb); (try clear hb2); (try clear hk); (try clear hi)) | ((with_reducible refine gate_dst (N := 7) rfl ?_); refine box_event ?hg (N := 7) ?hd (cs := #[.int .i64 0, .int .i64 0]) (t := 38) ?hr ?_; (case hd => rfl); (case hg => rfl); (case hr => first | (go_simp; done) | (go_simp; rfl)); intro gb146 hg w12 hbox hb; have n0_ := Aside0.mk (below_step (by repeat (first | (with_reducible first | exact HB.out | apply below_alloc | apply pw_below_drewN | apply below_drew1) | exact HB.out)) hb); have n1_ := Aside0.mk (hbox); have n2_ := Aside0.mk ((by rw [hg]; exact (below_size (by repeat (first | (with_reducible first | exact HB.out | apply below_alloc | apply pw_below_drewN | apply below_drew1) | exact HB.out))) : w.heap.size ≤ gb146)); have n3_ := Aside0.mk ((by rw [hg]; exact (below_size (by repeat (first | (with_reducible first | exact HB.out | apply below_alloc | apply pw_below_drewN | apply below_drew1) | exact HB.out))) : w.heap.size ≤ gb146)); clear HB; have HB := n0_; have BK146 := n1_; have GW146 := n2_; have GE146 := n3_; clear n0_ n1_ n2_ n3_; clear hb hbox hg; have hcz13_0 : w12.cell? ⟨gb146, 0, none⟩ = some (.int .i64 0) := (blk_cell BK146.out 0).trans rfl; have hcz13_1 : w12.cell? ⟨gb146, 1, none⟩ = some (.int .i64 0) := (blk_cell BK146.out 1).trans rfl; have hfz13_0 := blk_frozen BK146.out 0; have hfz13_1 := blk_frozen BK146.out 1) | ((with_reducible refine gate_callee (f := 27) rfl ?_); refine goesL_ (some 36) rfl rfl Tryd.func27 (by kernel_rfl) rfl #[.int .i64 t141, .int .i64 t142] rfl (by (try simp only [List.map_toArray, List.map_cons, List.map_nil]); first | done | rfl | (simp only [List.length_drop, List.length_take]; rfl)) ?_; (with_reducible refine (impl_FracOf.calls kj2 t141 t142 t147 t148 t149 _ A8.out).mono ?_); rintro e w14 ⟨rfl, hb⟩; refine ⟨_, rfl, ?_⟩; have n0_ := Aside0.mk (blk_below (g := gb146) (o := .cells #[.int .i64 t143, .int .i64 t144] 38 (0, 0)) (by (with_reducible repeat (first | refine blk_drewN ?_ _ | refine blk_drew ?_ | refine blk_alloc ?_ _)); refine blk_put (cs := #[.int .i64 t143, .int .i64 0]) ?_ 1 _ rfl; (with_reducible repeat (first | refine blk_drewN ?_ _ | refine blk_drew ?_ | refine blk_alloc ?_ _)); refine blk_put (cs := #[.int .i64 0, .int .i64 0]) ?_ 0 _ rfl; (with_reducible repeat (first | refine blk_drewN ?_ _ | refine blk_drew ?_ | refine blk_alloc ?_ _)); exact BK146.out) hb); have n1_ := Aside0.mk (below_step (by repeat (first | (with_reducible first | exact HB.out | apply below_alloc | apply pw_below_drewN | apply below_drew1 | refine below_set ?_ GE146.out) | exact HB.out)) hb); clear BK146; clear HB; have BK146 := n0_; have HB := n1_; clear n0_ n1_; (try clear hb); (try clear hb2); (try clear hk); (try clear hi)) | ((with_reducible refine gate_dst (N := 9) rfl ?_); refine box_event ?hg (N := 9) ?hd (cs := #[.int .i64 0, .int .i64 0]) (t := 38) ?hr ?_; (case hd => rfl); (case hg => rfl); (case hr => first | (go_simp; done) | (go_simp; rfl)); intro gb150 hg w15 hbox hb; have n0_ := Aside0.mk (blk_below (g := gb146) (o := .cells #[.int .i64 t143, .int .i64 t144] 38 (0, 0)) (by (with_reducible repeat (first | refine blk_drewN ?_ _ | refine blk_drew ?_ | refine blk_alloc ?_ _)); exact BK146.out) hb); have n1_ := Aside0.mk (below_step (by repeat (first | (with_reducible first | exact HB.out | apply below_alloc | apply pw_below_drewN | apply below_drew1 | refine below_set ?_ GE146.out) | exact HB.out)) hb); have n2_ := Aside0.mk (hbox); have n3_ := Aside0.mk ((by rw [hg]; exact (below_size (by repeat (first | (with_reducible first | exact HB.out | apply below_alloc | apply pw_below_drewN | apply below_drew1 | refine below_set ?_ GE146.out) | exact HB.out))) : w.heap.size ≤ gb150)); have n4_ := Aside0.mk ((by rw [hg]; exact (below_size (by repeat (first | (with_reducible first | exact HB.out | apply below_alloc | apply pw_below_drewN | apply below_drew1 | refine below_set ?_ GE146.out) | exact HB.out))) : w.heap.size ≤ gb150)); have n5_ := Aside0.mk ((by rw [hg]; exact Nat.ne_of_lt (blk_lt (g := gb146) (o := .cells #[.int .i64 t143, .int .i64 t144] 38 (0, 0)) (by (with_reducible repeat (first | refine blk_drewN ?_ _ | refine blk_drew ?_ | refine blk_alloc ?_ _)); exact BK146.out)) : gb146 ≠ gb150)); have n6_ := Aside0.mk ((by rw [hg]; exact Nat.ne_of_gt (blk_lt (g := gb146) (o := .cells #[.int .i64 t143, .int .i64 t144] 38 (0, 0)) (by (with_reducible repeat (first | refine blk_drewN ?_ _ | refine blk_drew ?_ | refine blk_alloc ?_ _)); exact BK146.out)) : gb150 ≠ gb146)); clear BK146; clear HB; have BK146 := n0_; have HB := n1_; have BK150 := n2_; have GW150 := n3_; have GE150 := n4_; have NB146_150 := n5_; have NB150_146 := n6_; clear n0_ n1_ n2_ n3_ n4_ n5_ n6_; clear hb hbox hg; have hnb16 := NB150_146.out; have hnc16 := NB146_150.out; have hcz17_0 : w15.cell? ⟨gb150, 0, none⟩ = some (.int .i64 0) := (blk_cell BK150.out 0).trans rfl; have hcz17_1 : w15.cell? ⟨gb150, 1, none⟩ = some (.int .i64 0) := (blk_cell BK150.out 1).trans rfl; have hfz17_0 := blk_frozen BK150.out 0; have hfz17_1 := blk_frozen BK150.out 1))
    (try simp only [Act.put, Geo.sa_, Geo.sb_, Geo.sc_]); go_cut [50] (fun v50 wc => ∃ (kq : Nat) (x50_8 : Bool), v50 = .bool x50_8 ∧ Aside0 (laws_FnFracOf.j1 kq l1 t141 t142 t145 t149 x50_8 t143 t144 t147 t148 = some r) ∧ Aside0 (kq ≤ kj2) ∧ Aside0 (wc.heap[gb146]? = some (.cells #[.int .i64 t143, .int .i64 t144] 38 (0, 0))) ∧ Aside0 (wc.heap[gb150]? = some (.cells #[.int .i64 t147, .int .i64 t148] 38 (0, 0))) ∧ Aside0 (Below w.heap.size w wc))
    case first =>
     have H := HC9.out; clear HC9; by_cases c18 : (t149 != t145) = true
     ·rw [if_pos c18] at H; have c18b0 : (t149 != t145) = true := c18; (try (have c18b1 : decide (t149 = t145) = false := by simpa using c18)); (try (have c18b2 : (t149 == t145) = false := by simpa using c18)); (try (have c18b3 : ¬ (t149 = t145) := by simpa using c18)); clear c18; (first | rw [c18b0] | (simp only [i64_w, i32_w]; rw [c18b0]) | skip); have H' := Aside0.mk H; clear H; go_wp2
      go_meet
      case rel => exact ⟨_, (true), (by first | rfl | (simp; done) | (simp [*]; done)), H', ⟨by have := HJ2.out; first | omega | exact Nat.le_refl _⟩, ⟨by (with_reducible repeat (first | refine blk_drewN ?_ _ | refine blk_drew ?_ | refine blk_alloc ?_ _)); refine blk_far ?_ NB146_150.out _; (with_reducible repeat (first | refine blk_drewN ?_ _ | refine blk_drew ?_ | refine blk_alloc ?_ _)); refine blk_far ?_ NB146_150.out _; (with_reducible repeat (first | refine blk_drewN ?_ _ | refine blk_drew ?_ | refine blk_alloc ?_ _)); exact BK146.out⟩, ⟨by (with_reducible repeat (first | refine blk_drewN ?_ _ | refine blk_drew ?_ | refine blk_alloc ?_ _)); refine blk_put (cs := #[.int .i64 t147, .int .i64 0]) ?_ 1 _ rfl; (with_reducible repeat (first | refine blk_drewN ?_ _ | refine blk_drew ?_ | refine blk_alloc ?_ _)); refine blk_put (cs := #[.int .i64 0, .int .i64 0]) ?_ 0 _ rfl; (with_reducible repeat (first | refine blk_drewN ?_ _ | refine blk_drew ?_ | refine blk_alloc ?_ _)); exact BK150.out⟩, ⟨by repeat (first | (with_reducible first | exact HB.out | apply below_alloc | apply pw_below_drewN | apply below_drew1 | refine below_set ?_ GE146.out | refine below_set ?_ GE150.out) | exact HB.out)⟩⟩
     ·rw [if_neg c18] at H; have c18b0 : (t149 != t145) = false := by simpa using c18
      (try (have c18b1 : decide (t149 = t145) = true := by simpa using c18)); (try (have c18b2 : (t149 == t145) = true := by simpa using c18)); clear c18; (first | rw [c18b0] | (simp only [i64_w, i32_w]; rw [c18b0]) | skip); by_cases c19 : (!(t147 == t143) || (!(t148 == t144))) = true
      ·rw [if_pos c19] at H; have c19b0 : (!(t147 == t143) || (!(t148 == t144))) = true := c19; clear c19; have H' := Aside0.mk H; clear H; have hnb20 := NB150_146.out; have hnc20 := NB146_150.out; have hcz21_0 : w15.cell? ⟨gb150, 0, none⟩ = some (.int .i64 0) := (blk_cell BK150.out 0).trans rfl; have hcz21_1 : w15.cell? ⟨gb150, 1, none⟩ = some (.int .i64 0) := (blk_cell BK150.out 1).trans rfl; have hfz21_0 := blk_frozen BK150.out 0; have hfz21_1 := blk_frozen BK150.out 1; have hcz22_0 : w15.cell? ⟨gb146, 0, none⟩ = some (.int .i64 t143) := (blk_cell BK146.out 0).trans rfl; have hcz22_1 : w15.cell? ⟨gb146, 1, none⟩ = some (.int .i64 t144) := (blk_cell BK146.out 1).trans rfl; have hfz22_0 := blk_frozen BK146.out 0; have hfz22_1 := blk_frozen BK146.out 1; go_wp2
       go_meet
       case rel => exact ⟨_, (true), (by first | rfl | (simp; done) | (simp [*]; done)), H', ⟨by have := HJ2.out; first | omega | exact Nat.le_refl _⟩, ⟨by (with_reducible repeat (first | refine blk_drewN ?_ _ | refine blk_drew ?_ | refine blk_alloc ?_ _)); refine blk_far ?_ NB146_150.out _; (with_reducible repeat (first | refine blk_drewN ?_ _ | refine blk_drew ?_ | refine blk_alloc ?_ _)); refine blk_far ?_ NB146_150.out _; (with_reducible repeat (first | refine blk_drewN ?_ _ | refine blk_drew ?_ | refine blk_alloc ?_ _)); exact BK146.out⟩, ⟨by (with_reducible repeat (first | refine blk_drewN ?_ _ | refine blk_drew ?_ | refine blk_alloc ?_ _)); refine blk_put (cs := #[.int .i64 t147, .int .i64 0]) ?_ 1 _ rfl; (with_reducible repeat (first | refine blk_drewN ?_ _ | refine blk_drew ?_ | refine blk_alloc ?_ _)); refine blk_put (cs := #[.int .i64 0, .int .i64 0]) ?_ 0 _ rfl; (with_reducible repeat (first | refine blk_drewN ?_ _ | refine blk_drew ?_ | refine blk_alloc ?_ _)); exact BK150.out⟩, ⟨by repeat (first | (with_reducible first | exact HB.out | apply below_alloc | apply pw_below_drewN | apply below_drew1 | refine below_set ?_ GE146.out | refine below_set ?_ GE150.out) | exact HB.out)⟩⟩
      ·rw [if_neg c19] at H; have c19b0 : (!(t147 == t143) || (!(t148 == t144))) = false := by simpa using c19
       clear c19; have H' := Aside0.mk H; clear H; have hnb23 := NB150_146.out; have hnc23 := NB146_150.out; have hcz24_0 : w15.cell? ⟨gb150, 0, none⟩ = some (.int .i64 0) := (blk_cell BK150.out 0).trans rfl; have hcz24_1 : w15.cell? ⟨gb150, 1, none⟩ = some (.int .i64 0) := (blk_cell BK150.out 1).trans rfl; have hfz24_0 := blk_frozen BK150.out 0; have hfz24_1 := blk_frozen BK150.out 1; have hcz25_0 : w15.cell? ⟨gb146, 0, none⟩ = some (.int .i64 t143) := (blk_cell BK146.out 0).trans rfl; have hcz25_1 : w15.cell? ⟨gb146, 1, none⟩ = some (.int .i64 t144) := (blk_cell BK146.out 1).trans rfl; have hfz25_0 := blk_frozen BK146.out 0; have hfz25_1 := blk_frozen BK146.out 1; go_wp2
       go_meet
       case rel => exact ⟨_, (!t149), (by first | rfl | (simp; done) | (simp [*]; done)), H', ⟨by have := HJ2.out; first | omega | exact Nat.le_refl _⟩, ⟨by (with_reducible repeat (first | refine blk_drewN ?_ _ | refine blk_drew ?_ | refine blk_alloc ?_ _)); refine blk_far ?_ NB146_150.out _; (with_reducible repeat (first | refine blk_drewN ?_ _ | refine blk_drew ?_ | refine blk_alloc ?_ _)); refine blk_far ?_ NB146_150.out _; (with_reducible repeat (first | refine blk_drewN ?_ _ | refine blk_drew ?_ | refine blk_alloc ?_ _)); exact BK146.out⟩, ⟨by (with_reducible repeat (first | refine blk_drewN ?_ _ | refine blk_drew ?_ | refine blk_alloc ?_ _)); refine blk_put (cs := #[.int .i64 t147, .int .i64 0]) ?_ 1 _ rfl; (with_reducible repeat (first | refine blk_drewN ?_ _ | refine blk_drew ?_ | refine blk_alloc ?_ _)); refine blk_put (cs := #[.int .i64 0, .int .i64 0]) ?_ 0 _ rfl; (with_reducible repeat (first | refine blk_drewN ?_ _ | refine blk_drew ?_ | refine blk_alloc ?_ _)); exact BK150.out⟩, ⟨by repeat (first | (with_reducible first | exact HB.out | apply below_alloc | apply pw_below_drewN | apply below_drew1 | refine below_set ?_ GE146.out | refine below_set ?_ GE150.out) | exact HB.out)⟩⟩
    case rest =>
     clear HC9; try clear c1
     try clear c2
     try clear p2
     try clear c4
     try clear c4b0
     try clear c4b1
     try clear c5
     try clear c6
     try clear c16
     try clear c18
     try clear c18b0
     try clear c18b1
     try clear c18b2
     try clear c19
     try clear c19b0
     try clear c20
     try clear c23
     try clear c25
     try clear hcz13_0
     try clear hcz13_1
     try clear hcz17_0
     try clear hcz17_1
     try clear hcz21_0
     try clear hcz21_1
     try clear hcz22_0
     try clear hcz22_1
     try clear hcz24_0
     try clear hcz24_1
     try clear hcz25_0
     try clear hcz25_1
     try clear hfz13_0
     try clear hfz13_1
     try clear hfz17_0
     try clear hfz17_1
     try clear hfz21_0
     try clear hfz21_1
     try clear hfz22_0
     try clear hfz22_1
     try clear hfz24_0
     try clear hfz24_1
     try clear hfz25_0
     try clear hfz25_1
     try clear p2
     obtain ⟨kq, x50_8, rfl, HA, HJ8, BK146, BK150, HB⟩ := hcut; cases kq with
     | zero => exact absurd HA.out (by simp [laws_FnFracOf.j1])
     | succ kj8 =>
      have H := HA.out; clear HA; simp only [laws_FnFracOf.j1] at H; by_cases c26 : x50_8 = true
      ·subst c26; have H1 : (if (t149 == t145) = true then (some (t147 == t143 && (t148 == t144))) else (some false)) = some r := by rw [if_pos rfl] at H; exact H
       clear H; have H := H1; clear H1; by_cases c27 : (t149 == t145) = true
       ·rw [if_pos c27] at H; have c27b0 : (t149 == t145) = true := c27; (try (have c27b1 : decide (t149 = t145) = true := by simpa using c27)); (try (have c27b2 : (t149 == t145) = true := by simpa using c27)); clear c27; obtain rfl := Option.some.inj H; have hnb28 := NB150_146.out; have hnc28 := NB146_150.out; have hcz29_0 : wc.cell? ⟨gb150, 0, none⟩ = some (.int .i64 t147) := (blk_cell BK150.out 0).trans rfl; have hcz29_1 : wc.cell? ⟨gb150, 1, none⟩ = some (.int .i64 t148) := (blk_cell BK150.out 1).trans rfl; have hfz29_0 := blk_frozen BK150.out 0; have hfz29_1 := blk_frozen BK150.out 1; have hcz30_0 : wc.cell? ⟨gb146, 0, none⟩ = some (.int .i64 t143) := (blk_cell BK146.out 0).trans rfl; have hcz30_1 : wc.cell? ⟨gb146, 1, none⟩ = some (.int .i64 t144) := (blk_cell BK146.out 1).trans rfl; have hfz30_0 := blk_frozen BK146.out 0; have hfz30_1 := blk_frozen BK146.out 1; go_wp2
        go_ret
        exact ⟨by first | rfl | (simp [errW_none, errW_some] <;> rfl) | (simp [*, errW_none, errW_some] <;> rfl), by repeat (first | (with_reducible first | exact HB.out | apply below_alloc | apply pw_below_drewN | apply below_drew1 | refine below_set ?_ GE146.out | refine below_set ?_ GE150.out) | exact HB.out)⟩
       ·rw [if_neg c27] at H; have c27b0 : (t149 == t145) = false := by simpa using c27
        (try (have c27b1 : decide (t149 = t145) = false := by simpa using c27)); (try (have c27b2 : (t149 == t145) = false := by simpa using c27)); (try (have c27b3 : ¬ (t149 = t145) := by simpa using c27)); clear c27; obtain rfl := Option.some.inj H; go_wp2
        go_ret
        exact ⟨by first | rfl | (simp [errW_none, errW_some] <;> rfl) | (simp [*, errW_none, errW_some] <;> rfl), by repeat (first | (with_reducible first | exact HB.out | apply below_alloc | apply pw_below_drewN | apply below_drew1 | refine below_set ?_ GE146.out | refine below_set ?_ GE150.out) | exact HB.out)⟩
      ·replace c26 := Bool.eq_false_iff.mpr c26; subst c26; have H1 : ((impl_FracOf.f kj8 (wrap64 (t141 * (1 + ((l1.length : Int) % 9)))) (wrap64 (t142 * (1 + ((l1.length : Int) % 9))))).bind fun bt151 => ((impl_FracOk.f kj8 t147 t148).bind fun t155 => (if t155 = true then (if (wrap64 (t147 * t142)) = (wrap64 (t141 * t148)) then (if (bt151.1 == t147 && (bt151.2.1 == t148)) = true then (if (wrap64 (t141 * (1 + ((l1.length : Int) % 9)))) ≤ 99999 then (some (bt151.2.2 == (decide ((wrap64 (t142 * (1 + ((l1.length : Int) % 9)))) ≤ 99999)))) else (some (bt151.2.2 == false))) else (if bt151.2.2 = true then (some false) else (if (wrap64 (t141 * (1 + ((l1.length : Int) % 9)))) ≤ 99999 then (some (bt151.2.2 == (decide ((wrap64 (t142 * (1 + ((l1.length : Int) % 9)))) ≤ 99999)))) else (some (bt151.2.2 == false))))) else (some false)) else (some false)))) = some r := by rw [if_neg (show ¬ (false = true) by decide)] at H; exact H
       clear H; have H := H1; clear H1; replace H := Option.bind_eq_some_iff.mp H; obtain ⟨⟨t151, t152, t153⟩, A310, H⟩ := H; replace H : ((impl_FracOk.f kj8 t147 t148).bind fun t155 => (if t155 = true then (if (wrap64 (t147 * t142)) = (wrap64 (t141 * t148)) then (if (t151 == t147 && (t152 == t148)) = true then (if (wrap64 (t141 * (1 + ((l1.length : Int) % 9)))) ≤ 99999 then (some (t153 == (decide ((wrap64 (t142 * (1 + ((l1.length : Int) % 9)))) ≤ 99999)))) else (some (t153 == false))) else (if t153 = true then (some false) else (if (wrap64 (t141 * (1 + ((l1.length : Int) % 9)))) ≤ 99999 then (some (t153 == (decide ((wrap64 (t142 * (1 + ((l1.length : Int) % 9)))) ≤ 99999)))) else (some (t153 == false))))) else (some false)) else (some false))) = some r := H; have A31 := Aside0.mk A310; clear A310; replace H := Option.bind_eq_some_iff.mp H; obtain ⟨t155, A320, H⟩ := H; replace H : (if t155 = true then (if (wrap64 (t147 * t142)) = (wrap64 (t141 * t148)) then (if (t151 == t147 && (t152 == t148)) = true then (if (wrap64 (t141 * (1 + ((l1.length : Int) % 9)))) ≤ 99999 then (some (t153 == (decide ((wrap64 (t142 * (1 + ((l1.length : Int) % 9)))) ≤ 99999)))) else (some (t153 == false))) else (if t153 = true then (some false) else (if (wrap64 (t141 * (1 + ((l1.length : Int) % 9)))) ≤ 99999 then (some (t153 == (decide ((wrap64 (t142 * (1 + ((l1.length : Int) % 9)))) ≤ 99999)))) else (some (t153 == false))))) else (some false)) else (some false)) = some r := H; have A32 := Aside0.mk A320; clear A320; by_cases c33 : t155 = true
       ·subst c33; have H1 : (if (wrap64 (t147 * t142)) = (wrap64 (t141 * t148)) then (if (t151 == t147 && (t152 == t148)) = true then (if (wrap64 (t141 * (1 + ((l1.length : Int) % 9)))) ≤ 99999 then (some (t153 == (decide ((wrap64 (t142 * (1 + ((l1.length : Int) % 9)))) ≤ 99999)))) else (some (t153 == false))) else (if t153 = true then (some false) else (if (wrap64 (t141 * (1 + ((l1.length : Int) % 9)))) ≤ 99999 then (some (t153 == (decide ((wrap64 (t142 * (1 + ((l1.length : Int) % 9)))) ≤ 99999)))) else (some (t153 == false))))) else (some false)) = some r := by rw [if_pos rfl] at H; exact H
        clear H; have H := H1; clear H1; by_cases c34 : (wrap64 (t147 * t142)) = (wrap64 (t141 * t148))
        ·rw [if_pos c34] at H; have c34b0 : ((wrap64 (t147 * t142)) == (wrap64 (t141 * t148))) = true := beq_iff_eq.mpr c34; have c34b1 : ((wrap64 (t147 * t142)) != (wrap64 (t141 * t148))) = false := bne_eq_false_iff_eq.mpr c34; clear c34; by_cases c35 : (t151 == t147 && (t152 == t148)) = true
         ·rw [if_pos c35] at H; have c35b0 : (t151 == t147 && (t152 == t148)) = true := c35; (try (have c35b1 : decide (t151 = t147 && (t152 == t148)) = true := by simpa using c35)); (try (have c35b2 : (t151 == t147 && (t152 == t148)) = true := by simpa using c35)); clear c35; by_cases c36 : (wrap64 (t141 * (1 + ((l1.length : Int) % 9)))) ≤ 99999
          ·rw [if_pos c36] at H; have c36b0 : decide ((wrap64 (t141 * (1 + ((l1.length : Int) % 9)))) ≤ 99999) = true := decide_eq_true c36; clear c36; obtain rfl := Option.some.inj H; go_wp2_with (first | ((with_reducible refine gate_callee (f := 27) rfl ?_); refine goesL_ (some 70) rfl rfl Tryd.func27 (by kernel_rfl) rfl #[.int .i64 (wrap64 (t141 * (1 + ((l1.length : Int) % 9)))), .int .i64 (wrap64 (t142 * (1 + ((l1.length : Int) % 9))))] rfl (by (try simp only [List.map_toArray, List.map_cons, List.map_nil]); first | done | rfl | (simp only [List.length_drop, List.length_take]; rfl)) ?_; (with_reducible refine (impl_FracOf.calls kj8 (wrap64 (t141 * (1 + ((l1.length : Int) % 9)))) (wrap64 (t142 * (1 + ((l1.length : Int) % 9)))) t151 t152 t153 _ A31.out).mono ?_); rintro e w37 ⟨rfl, hb⟩; refine ⟨_, rfl, ?_⟩; have n0_ := Aside0.mk (blk_below (g := gb146) (o := .cells #[.int .i64 t143, .int .i64 t144] 38 (0, 0)) (by (with_reducible repeat (first | refine blk_drewN ?_ _ | refine blk_drew ?_ | refine blk_alloc ?_ _)); exact BK146.out) hb); have n1_ := Aside0.mk (blk_below (g := gb150) (o := .cells #[.int .i64 t147, .int .i64 t148] 38 (0, 0)) (by (with_reducible repeat (first | refine blk_drewN ?_ _ | refine blk_drew ?_ | refine blk_alloc ?_ _)); exact BK150.out) hb); have n2_ := Aside0.mk (below_step (by repeat (first | (with_reducible first | exact HB.out | apply below_alloc | apply pw_below_drewN | apply below_drew1 | refine below_set ?_ GE146.out | refine below_set ?_ GE150.out) | exact HB.out)) hb); clear BK146; clear BK150; clear HB; have BK146 := n0_; have BK150 := n1_; have HB := n2_; clear n0_ n1_ n2_; (try clear hb); (try clear hb2); (try clear hk); (try clear hi)) | ((with_reducible refine gate_dst (N := 12) rfl ?_); refine box_event ?hg (N := 12) ?hd (cs := #[.int .i64 0, .int .i64 0]) (t := 38) ?hr ?_; (case hd => rfl); (case hg => rfl); (case hr => first | (go_simp; done) | (go_simp; rfl)); intro gb154 hg w38 hbox hb; have n0_ := Aside0.mk (blk_below (g := gb146) (o := .cells #[.int .i64 t143, .int .i64 t144] 38 (0, 0)) (by (with_reducible repeat (first | refine blk_drewN ?_ _ | refine blk_drew ?_ | refine blk_alloc ?_ _)); exact BK146.out) hb); have n1_ := Aside0.mk (blk_below (g := gb150) (o := .cells #[.int .i64 t147, .int .i64 t148] 38 (0, 0)) (by (with_reducible repeat (first | refine blk_drewN ?_ _ | refine blk_drew ?_ | refine blk_alloc ?_ _)); exact BK150.out) hb); have n2_ := Aside0.mk (below_step (by repeat (first | (with_reducible first | exact HB.out | apply below_alloc | apply pw_below_drewN | apply below_drew1 | refine below_set ?_ GE146.out | refine below_set ?_ GE150.out) | exact HB.out)) hb); have n3_ := Aside0.mk (hbox); have n4_ := Aside0.mk ((by rw [hg]; exact (below_size (by repeat (first | (with_reducible first | exact HB.out | apply below_alloc | apply pw_below_drewN | apply below_drew1 | refine below_set ?_ GE146.out | refine below_set ?_ GE150.out) | exact HB.out))) : w.heap.size ≤ gb154)); have n5_ := Aside0.mk ((by rw [hg]; exact (below_size (by repeat (first | (with_reducible first | exact HB.out | apply below_alloc | apply pw_below_drewN | apply below_drew1 | refine below_set ?_ GE146.out | refine below_set ?_ GE150.out) | exact HB.out))) : w.heap.size ≤ gb154)); have n6_ := Aside0.mk ((by rw [hg]; exact Nat.ne_of_lt (blk_lt (g := gb146) (o := .cells #[.int .i64 t143, .int .i64 t144] 38 (0, 0)) (by (with_reducible repeat (first | refine blk_drewN ?_ _ | refine blk_drew ?_ | refine blk_alloc ?_ _)); exact BK146.out)) : gb146 ≠ gb154)); have n7_ := Aside0.mk ((by rw [hg]; exact Nat.ne_of_gt (blk_lt (g := gb146) (o := .cells #[.int .i64 t143, .int .i64 t144] 38 (0, 0)) (by (with_reducible repeat (first | refine blk_drewN ?_ _ | refine blk_drew ?_ | refine blk_alloc ?_ _)); exact BK146.out)) : gb154 ≠ gb146)); have n8_ := Aside0.mk ((by rw [hg]; exact Nat.ne_of_lt (blk_lt (g := gb150) (o := .cells #[.int .i64 t147, .int .i64 t148] 38 (0, 0)) (by (with_reducible repeat (first | refine blk_drewN ?_ _ | refine blk_drew ?_ | refine blk_alloc ?_ _)); exact BK150.out)) : gb150 ≠ gb154)); have n9_ := Aside0.mk ((by rw [hg]; exact Nat.ne_of_gt (blk_lt (g := gb150) (o := .cells #[.int .i64 t147, .int .i64 t148] 38 (0, 0)) (by (with_reducible repeat (first | refine blk_drewN ?_ _ | refine blk_drew ?_ | refine blk_alloc ?_ _)); exact BK150.out)) : gb154 ≠ gb150)); clear BK146; clear BK150; clear HB; have BK146 := n0_; have BK150 := n1_; have HB := n2_; have BK154 := n3_; have GW154 := n4_; have GE154 := n5_; have NB146_154 := n6_; have NB154_146 := n7_; have NB150_154 := n8_; have NB154_150 := n9_; clear n0_ n1_ n2_ n3_ n4_ n5_ n6_ n7_ n8_ n9_; clear hb hbox hg; have hnb39 := NB154_146.out; have hnc39 := NB146_154.out; have hnb40 := NB154_150.out; have hnc40 := NB150_154.out; have hcz41_0 : w38.cell? ⟨gb154, 0, none⟩ = some (.int .i64 0) := (blk_cell BK154.out 0).trans rfl; have hcz41_1 : w38.cell? ⟨gb154, 1, none⟩ = some (.int .i64 0) := (blk_cell BK154.out 1).trans rfl; have hfz41_0 := blk_frozen BK154.out 0; have hfz41_1 := blk_frozen BK154.out 1; have hnb42 := NB150_146.out; have hnc42 := NB146_150.out; have hcz43_0 : w38.cell? ⟨gb150, 0, none⟩ = some (.int .i64 t147) := (blk_cell BK150.out 0).trans rfl; have hcz43_1 : w38.cell? ⟨gb150, 1, none⟩ = some (.int .i64 t148) := (blk_cell BK150.out 1).trans rfl; have hfz43_0 := blk_frozen BK150.out 0; have hfz43_1 := blk_frozen BK150.out 1) | ((with_reducible refine gate_callee (f := 19) rfl ?_); refine goesL_ (some 74) rfl rfl Tryd.func19 (by kernel_rfl) rfl #[.agg #[.int .i64 t147, .int .i64 t148]] rfl (by (try simp only [List.map_toArray, List.map_cons, List.map_nil]); first | done | rfl | (simp only [List.length_drop, List.length_take]; rfl)) ?_; (with_reducible refine (impl_FracOk.calls kj8 t147 t148 true _ A32.out).mono ?_); rintro e w44 ⟨rfl, hb⟩; refine ⟨_, rfl, ?_⟩; have n0_ := Aside0.mk (blk_below (g := gb146) (o := .cells #[.int .i64 t143, .int .i64 t144] 38 (0, 0)) (by (with_reducible repeat (first | refine blk_drewN ?_ _ | refine blk_drew ?_ | refine blk_alloc ?_ _)); refine blk_far ?_ NB146_154.out _; (with_reducible repeat (first | refine blk_drewN ?_ _ | refine blk_drew ?_ | refine blk_alloc ?_ _)); refine blk_far ?_ NB146_154.out _; (with_reducible repeat (first | refine blk_drewN ?_ _ | refine blk_drew ?_ | refine blk_alloc ?_ _)); exact BK146.out) hb); have n1_ := Aside0.mk (blk_below (g := gb150) (o := .cells #[.int .i64 t147, .int .i64 t148] 38 (0, 0)) (by (with_reducible repeat (first | refine blk_drewN ?_ _ | refine blk_drew ?_ | refine blk_alloc ?_ _)); refine blk_far ?_ NB150_154.out _; (with_reducible repeat (first | refine blk_drewN ?_ _ | refine blk_drew ?_ | refine blk_alloc ?_ _)); refine blk_far ?_ NB150_154.out _; (with_reducible repeat (first | refine blk_drewN ?_ _ | refine blk_drew ?_ | refine blk_alloc ?_ _)); exact BK150.out) hb); have n2_ := Aside0.mk (blk_below (g := gb154) (o := .cells #[.int .i64 t151, .int .i64 t152] 38 (0, 0)) (by (with_reducible repeat (first | refine blk_drewN ?_ _ | refine blk_drew ?_ | refine blk_alloc ?_ _)); refine blk_put (cs := #[.int .i64 t151, .int .i64 0]) ?_ 1 _ rfl; (with_reducible repeat (first | refine blk_drewN ?_ _ | refine blk_drew ?_ | refine blk_alloc ?_ _)); refine blk_put (cs := #[.int .i64 0, .int .i64 0]) ?_ 0 _ rfl; (with_reducible repeat (first | refine blk_drewN ?_ _ | refine blk_drew ?_ | refine blk_alloc ?_ _)); exact BK154.out) hb); have n3_ := Aside0.mk (below_step (by repeat (first | (with_reducible first | exact HB.out | apply below_alloc | apply pw_below_drewN | apply below_drew1 | refine below_set ?_ GE146.out | refine below_set ?_ GE150.out | refine below_set ?_ GE154.out) | exact HB.out)) hb); clear BK146; clear BK150; clear BK154; clear HB; have BK146 := n0_; have BK150 := n1_; have BK154 := n2_; have HB := n3_; clear n0_ n1_ n2_ n3_; (try clear hb); (try clear hb2); (try clear hk); (try clear hi); have hcz45_0 : w44.cell? ⟨gb150, 0, none⟩ = some (.int .i64 t147) := (blk_cell BK150.out 0).trans rfl; have hcz45_1 : w44.cell? ⟨gb150, 1, none⟩ = some (.int .i64 t148) := (blk_cell BK150.out 1).trans rfl; have hfz45_0 := blk_frozen BK150.out 0; have hfz45_1 := blk_frozen BK150.out 1; have hcz46_0 : w44.cell? ⟨gb154, 0, none⟩ = some (.int .i64 t151) := (blk_cell BK154.out 0).trans rfl; have hcz46_1 : w44.cell? ⟨gb154, 1, none⟩ = some (.int .i64 t152) := (blk_cell BK154.out 1).trans rfl; have hfz46_0 := blk_frozen BK154.out 0; have hfz46_1 := blk_frozen BK154.out 1))
           go_ret
           exact ⟨by first | rfl | (simp [errW_none, errW_some] <;> rfl) | (simp [*, errW_none, errW_some] <;> rfl), by repeat (first | (with_reducible first | exact HB.out | apply below_alloc | apply pw_below_drewN | apply below_drew1 | refine below_set ?_ GE146.out | refine below_set ?_ GE150.out | refine below_set ?_ GE154.out) | exact HB.out)⟩
          ·rw [if_neg c36] at H; have c36b0 : decide ((wrap64 (t141 * (1 + ((l1.length : Int) % 9)))) ≤ 99999) = false := decide_eq_false c36; clear c36; obtain rfl := Option.some.inj H; go_wp2_with (first | ((with_reducible refine gate_callee (f := 27) rfl ?_); refine goesL_ (some 70) rfl rfl Tryd.func27 (by kernel_rfl) rfl #[.int .i64 (wrap64 (t141 * (1 + ((l1.length : Int) % 9)))), .int .i64 (wrap64 (t142 * (1 + ((l1.length : Int) % 9))))] rfl (by (try simp only [List.map_toArray, List.map_cons, List.map_nil]); first | done | rfl | (simp only [List.length_drop, List.length_take]; rfl)) ?_; (with_reducible refine (impl_FracOf.calls kj8 (wrap64 (t141 * (1 + ((l1.length : Int) % 9)))) (wrap64 (t142 * (1 + ((l1.length : Int) % 9)))) t151 t152 t153 _ A31.out).mono ?_); rintro e w47 ⟨rfl, hb⟩; refine ⟨_, rfl, ?_⟩; have n0_ := Aside0.mk (blk_below (g := gb146) (o := .cells #[.int .i64 t143, .int .i64 t144] 38 (0, 0)) (by (with_reducible repeat (first | refine blk_drewN ?_ _ | refine blk_drew ?_ | refine blk_alloc ?_ _)); exact BK146.out) hb); have n1_ := Aside0.mk (blk_below (g := gb150) (o := .cells #[.int .i64 t147, .int .i64 t148] 38 (0, 0)) (by (with_reducible repeat (first | refine blk_drewN ?_ _ | refine blk_drew ?_ | refine blk_alloc ?_ _)); exact BK150.out) hb); have n2_ := Aside0.mk (below_step (by repeat (first | (with_reducible first | exact HB.out | apply below_alloc | apply pw_below_drewN | apply below_drew1 | refine below_set ?_ GE146.out | refine below_set ?_ GE150.out) | exact HB.out)) hb); clear BK146; clear BK150; clear HB; have BK146 := n0_; have BK150 := n1_; have HB := n2_; clear n0_ n1_ n2_; (try clear hb); (try clear hb2); (try clear hk); (try clear hi)) | ((with_reducible refine gate_dst (N := 12) rfl ?_); refine box_event ?hg (N := 12) ?hd (cs := #[.int .i64 0, .int .i64 0]) (t := 38) ?hr ?_; (case hd => rfl); (case hg => rfl); (case hr => first | (go_simp; done) | (go_simp; rfl)); intro gb154 hg w48 hbox hb; have n0_ := Aside0.mk (blk_below (g := gb146) (o := .cells #[.int .i64 t143, .int .i64 t144] 38 (0, 0)) (by (with_reducible repeat (first | refine blk_drewN ?_ _ | refine blk_drew ?_ | refine blk_alloc ?_ _)); exact BK146.out) hb); have n1_ := Aside0.mk (blk_below (g := gb150) (o := .cells #[.int .i64 t147, .int .i64 t148] 38 (0, 0)) (by (with_reducible repeat (first | refine blk_drewN ?_ _ | refine blk_drew ?_ | refine blk_alloc ?_ _)); exact BK150.out) hb); have n2_ := Aside0.mk (below_step (by repeat (first | (with_reducible first | exact HB.out | apply below_alloc | apply pw_below_drewN | apply below_drew1 | refine below_set ?_ GE146.out | refine below_set ?_ GE150.out) | exact HB.out)) hb); have n3_ := Aside0.mk (hbox); have n4_ := Aside0.mk ((by rw [hg]; exact (below_size (by repeat (first | (with_reducible first | exact HB.out | apply below_alloc | apply pw_below_drewN | apply below_drew1 | refine below_set ?_ GE146.out | refine below_set ?_ GE150.out) | exact HB.out))) : w.heap.size ≤ gb154)); have n5_ := Aside0.mk ((by rw [hg]; exact (below_size (by repeat (first | (with_reducible first | exact HB.out | apply below_alloc | apply pw_below_drewN | apply below_drew1 | refine below_set ?_ GE146.out | refine below_set ?_ GE150.out) | exact HB.out))) : w.heap.size ≤ gb154)); have n6_ := Aside0.mk ((by rw [hg]; exact Nat.ne_of_lt (blk_lt (g := gb146) (o := .cells #[.int .i64 t143, .int .i64 t144] 38 (0, 0)) (by (with_reducible repeat (first | refine blk_drewN ?_ _ | refine blk_drew ?_ | refine blk_alloc ?_ _)); exact BK146.out)) : gb146 ≠ gb154)); have n7_ := Aside0.mk ((by rw [hg]; exact Nat.ne_of_gt (blk_lt (g := gb146) (o := .cells #[.int .i64 t143, .int .i64 t144] 38 (0, 0)) (by (with_reducible repeat (first | refine blk_drewN ?_ _ | refine blk_drew ?_ | refine blk_alloc ?_ _)); exact BK146.out)) : gb154 ≠ gb146)); have n8_ := Aside0.mk ((by rw [hg]; exact Nat.ne_of_lt (blk_lt (g := gb150) (o := .cells #[.int .i64 t147, .int .i64 t148] 38 (0, 0)) (by (with_reducible repeat (first | refine blk_drewN ?_ _ | refine blk_drew ?_ | refine blk_alloc ?_ _)); exact BK150.out)) : gb150 ≠ gb154)); have n9_ := Aside0.mk ((by rw [hg]; exact Nat.ne_of_gt (blk_lt (g := gb150) (o := .cells #[.int .i64 t147, .int .i64 t148] 38 (0, 0)) (by (with_reducible repeat (first | refine blk_drewN ?_ _ | refine blk_drew ?_ | refine blk_alloc ?_ _)); exact BK150.out)) : gb154 ≠ gb150)); clear BK146; clear BK150; clear HB; have BK146 := n0_; have BK150 := n1_; have HB := n2_; have BK154 := n3_; have GW154 := n4_; have GE154 := n5_; have NB146_154 := n6_; have NB154_146 := n7_; have NB150_154 := n8_; have NB154_150 := n9_; clear n0_ n1_ n2_ n3_ n4_ n5_ n6_ n7_ n8_ n9_; clear hb hbox hg; have hnb49 := NB154_146.out; have hnc49 := NB146_154.out; have hnb50 := NB154_150.out; have hnc50 := NB150_154.out; have hcz51_0 : w48.cell? ⟨gb154, 0, none⟩ = some (.int .i64 0) := (blk_cell BK154.out 0).trans rfl; have hcz51_1 : w48.cell? ⟨gb154, 1, none⟩ = some (.int .i64 0) := (blk_cell BK154.out 1).trans rfl; have hfz51_0 := blk_frozen BK154.out 0; have hfz51_1 := blk_frozen BK154.out 1; have hnb52 := NB150_146.out; have hnc52 := NB146_150.out; have hcz53_0 : w48.cell? ⟨gb150, 0, none⟩ = some (.int .i64 t147) := (blk_cell BK150.out 0).trans rfl; have hcz53_1 : w48.cell? ⟨gb150, 1, none⟩ = some (.int .i64 t148) := (blk_cell BK150.out 1).trans rfl; have hfz53_0 := blk_frozen BK150.out 0; have hfz53_1 := blk_frozen BK150.out 1) | ((with_reducible refine gate_callee (f := 19) rfl ?_); refine goesL_ (some 74) rfl rfl Tryd.func19 (by kernel_rfl) rfl #[.agg #[.int .i64 t147, .int .i64 t148]] rfl (by (try simp only [List.map_toArray, List.map_cons, List.map_nil]); first | done | rfl | (simp only [List.length_drop, List.length_take]; rfl)) ?_; (with_reducible refine (impl_FracOk.calls kj8 t147 t148 true _ A32.out).mono ?_); rintro e w54 ⟨rfl, hb⟩; refine ⟨_, rfl, ?_⟩; have n0_ := Aside0.mk (blk_below (g := gb146) (o := .cells #[.int .i64 t143, .int .i64 t144] 38 (0, 0)) (by (with_reducible repeat (first | refine blk_drewN ?_ _ | refine blk_drew ?_ | refine blk_alloc ?_ _)); refine blk_far ?_ NB146_154.out _; (with_reducible repeat (first | refine blk_drewN ?_ _ | refine blk_drew ?_ | refine blk_alloc ?_ _)); refine blk_far ?_ NB146_154.out _; (with_reducible repeat (first | refine blk_drewN ?_ _ | refine blk_drew ?_ | refine blk_alloc ?_ _)); exact BK146.out) hb); have n1_ := Aside0.mk (blk_below (g := gb150) (o := .cells #[.int .i64 t147, .int .i64 t148] 38 (0, 0)) (by (with_reducible repeat (first | refine blk_drewN ?_ _ | refine blk_drew ?_ | refine blk_alloc ?_ _)); refine blk_far ?_ NB150_154.out _; (with_reducible repeat (first | refine blk_drewN ?_ _ | refine blk_drew ?_ | refine blk_alloc ?_ _)); refine blk_far ?_ NB150_154.out _; (with_reducible repeat (first | refine blk_drewN ?_ _ | refine blk_drew ?_ | refine blk_alloc ?_ _)); exact BK150.out) hb); have n2_ := Aside0.mk (blk_below (g := gb154) (o := .cells #[.int .i64 t151, .int .i64 t152] 38 (0, 0)) (by (with_reducible repeat (first | refine blk_drewN ?_ _ | refine blk_drew ?_ | refine blk_alloc ?_ _)); refine blk_put (cs := #[.int .i64 t151, .int .i64 0]) ?_ 1 _ rfl; (with_reducible repeat (first | refine blk_drewN ?_ _ | refine blk_drew ?_ | refine blk_alloc ?_ _)); refine blk_put (cs := #[.int .i64 0, .int .i64 0]) ?_ 0 _ rfl; (with_reducible repeat (first | refine blk_drewN ?_ _ | refine blk_drew ?_ | refine blk_alloc ?_ _)); exact BK154.out) hb); have n3_ := Aside0.mk (below_step (by repeat (first | (with_reducible first | exact HB.out | apply below_alloc | apply pw_below_drewN | apply below_drew1 | refine below_set ?_ GE146.out | refine below_set ?_ GE150.out | refine below_set ?_ GE154.out) | exact HB.out)) hb); clear BK146; clear BK150; clear BK154; clear HB; have BK146 := n0_; have BK150 := n1_; have BK154 := n2_; have HB := n3_; clear n0_ n1_ n2_ n3_; (try clear hb); (try clear hb2); (try clear hk); (try clear hi); have hcz55_0 : w54.cell? ⟨gb150, 0, none⟩ = some (.int .i64 t147) := (blk_cell BK150.out 0).trans rfl; have hcz55_1 : w54.cell? ⟨gb150, 1, none⟩ = some (.int .i64 t148) := (blk_cell BK150.out 1).trans rfl; have hfz55_0 := blk_frozen BK150.out 0; have hfz55_1 := blk_frozen BK150.out 1; have hcz56_0 : w54.cell? ⟨gb154, 0, none⟩ = some (.int .i64 t151) := (blk_cell BK154.out 0).trans rfl; have hcz56_1 : w54.cell? ⟨gb154, 1, none⟩ = some (.int .i64 t152) := (blk_cell BK154.out 1).trans rfl; have hfz56_0 := blk_frozen BK154.out 0; have hfz56_1 := blk_frozen BK154.out 1))
           go_ret
           exact ⟨by first | rfl | (simp [errW_none, errW_some] <;> rfl) | (simp [*, errW_none, errW_some] <;> rfl), by repeat (first | (with_reducible first | exact HB.out | apply below_alloc | apply pw_below_drewN | apply below_drew1 | refine below_set ?_ GE146.out | refine below_set ?_ GE150.out | refine below_set ?_ GE154.out) | exact HB.out)⟩
         ·rw [if_neg c35] at H; have c35b0 : (t151 == t147 && (t152 == t148)) = false := by simpa using c35
          (try (have c35b1 : decide (t151 = t147 && (t152 == t148)) = false := by simpa using c35)); (try (have c35b2 : (t151 == t147 && (t152 == t148)) = false := by simpa using c35)); (try (have c35b3 : ¬ (t151 = t147 && (t152 == t148)) := by simpa using c35)); clear c35; by_cases c57 : t153 = true
          ·subst c57; have H1 : (some false) = some r := by rw [if_pos rfl] at H; exact H
           clear H; have H := H1; clear H1; obtain rfl := Option.some.inj H; go_wp2_with (first | ((with_reducible refine gate_callee (f := 27) rfl ?_); refine goesL_ (some 70) rfl rfl Tryd.func27 (by kernel_rfl) rfl #[.int .i64 (wrap64 (t141 * (1 + ((l1.length : Int) % 9)))), .int .i64 (wrap64 (t142 * (1 + ((l1.length : Int) % 9))))] rfl (by (try simp only [List.map_toArray, List.map_cons, List.map_nil]); first | done | rfl | (simp only [List.length_drop, List.length_take]; rfl)) ?_; (with_reducible refine (impl_FracOf.calls kj8 (wrap64 (t141 * (1 + ((l1.length : Int) % 9)))) (wrap64 (t142 * (1 + ((l1.length : Int) % 9)))) t151 t152 true _ A31.out).mono ?_); rintro e w58 ⟨rfl, hb⟩; refine ⟨_, rfl, ?_⟩; have n0_ := Aside0.mk (blk_below (g := gb146) (o := .cells #[.int .i64 t143, .int .i64 t144] 38 (0, 0)) (by (with_reducible repeat (first | refine blk_drewN ?_ _ | refine blk_drew ?_ | refine blk_alloc ?_ _)); exact BK146.out) hb); have n1_ := Aside0.mk (blk_below (g := gb150) (o := .cells #[.int .i64 t147, .int .i64 t148] 38 (0, 0)) (by (with_reducible repeat (first | refine blk_drewN ?_ _ | refine blk_drew ?_ | refine blk_alloc ?_ _)); exact BK150.out) hb); have n2_ := Aside0.mk (below_step (by repeat (first | (with_reducible first | exact HB.out | apply below_alloc | apply pw_below_drewN | apply below_drew1 | refine below_set ?_ GE146.out | refine below_set ?_ GE150.out) | exact HB.out)) hb); clear BK146; clear BK150; clear HB; have BK146 := n0_; have BK150 := n1_; have HB := n2_; clear n0_ n1_ n2_; (try clear hb); (try clear hb2); (try clear hk); (try clear hi)) | ((with_reducible refine gate_dst (N := 12) rfl ?_); refine box_event ?hg (N := 12) ?hd (cs := #[.int .i64 0, .int .i64 0]) (t := 38) ?hr ?_; (case hd => rfl); (case hg => rfl); (case hr => first | (go_simp; done) | (go_simp; rfl)); intro gb154 hg w59 hbox hb; have n0_ := Aside0.mk (blk_below (g := gb146) (o := .cells #[.int .i64 t143, .int .i64 t144] 38 (0, 0)) (by (with_reducible repeat (first | refine blk_drewN ?_ _ | refine blk_drew ?_ | refine blk_alloc ?_ _)); exact BK146.out) hb); have n1_ := Aside0.mk (blk_below (g := gb150) (o := .cells #[.int .i64 t147, .int .i64 t148] 38 (0, 0)) (by (with_reducible repeat (first | refine blk_drewN ?_ _ | refine blk_drew ?_ | refine blk_alloc ?_ _)); exact BK150.out) hb); have n2_ := Aside0.mk (below_step (by repeat (first | (with_reducible first | exact HB.out | apply below_alloc | apply pw_below_drewN | apply below_drew1 | refine below_set ?_ GE146.out | refine below_set ?_ GE150.out) | exact HB.out)) hb); have n3_ := Aside0.mk (hbox); have n4_ := Aside0.mk ((by rw [hg]; exact (below_size (by repeat (first | (with_reducible first | exact HB.out | apply below_alloc | apply pw_below_drewN | apply below_drew1 | refine below_set ?_ GE146.out | refine below_set ?_ GE150.out) | exact HB.out))) : w.heap.size ≤ gb154)); have n5_ := Aside0.mk ((by rw [hg]; exact (below_size (by repeat (first | (with_reducible first | exact HB.out | apply below_alloc | apply pw_below_drewN | apply below_drew1 | refine below_set ?_ GE146.out | refine below_set ?_ GE150.out) | exact HB.out))) : w.heap.size ≤ gb154)); have n6_ := Aside0.mk ((by rw [hg]; exact Nat.ne_of_lt (blk_lt (g := gb146) (o := .cells #[.int .i64 t143, .int .i64 t144] 38 (0, 0)) (by (with_reducible repeat (first | refine blk_drewN ?_ _ | refine blk_drew ?_ | refine blk_alloc ?_ _)); exact BK146.out)) : gb146 ≠ gb154)); have n7_ := Aside0.mk ((by rw [hg]; exact Nat.ne_of_gt (blk_lt (g := gb146) (o := .cells #[.int .i64 t143, .int .i64 t144] 38 (0, 0)) (by (with_reducible repeat (first | refine blk_drewN ?_ _ | refine blk_drew ?_ | refine blk_alloc ?_ _)); exact BK146.out)) : gb154 ≠ gb146)); have n8_ := Aside0.mk ((by rw [hg]; exact Nat.ne_of_lt (blk_lt (g := gb150) (o := .cells #[.int .i64 t147, .int .i64 t148] 38 (0, 0)) (by (with_reducible repeat (first | refine blk_drewN ?_ _ | refine blk_drew ?_ | refine blk_alloc ?_ _)); exact BK150.out)) : gb150 ≠ gb154)); have n9_ := Aside0.mk ((by rw [hg]; exact Nat.ne_of_gt (blk_lt (g := gb150) (o := .cells #[.int .i64 t147, .int .i64 t148] 38 (0, 0)) (by (with_reducible repeat (first | refine blk_drewN ?_ _ | refine blk_drew ?_ | refine blk_alloc ?_ _)); exact BK150.out)) : gb154 ≠ gb150)); clear BK146; clear BK150; clear HB; have BK146 := n0_; have BK150 := n1_; have HB := n2_; have BK154 := n3_; have GW154 := n4_; have GE154 := n5_; have NB146_154 := n6_; have NB154_146 := n7_; have NB150_154 := n8_; have NB154_150 := n9_; clear n0_ n1_ n2_ n3_ n4_ n5_ n6_ n7_ n8_ n9_; clear hb hbox hg; have hnb60 := NB154_146.out; have hnc60 := NB146_154.out; have hnb61 := NB154_150.out; have hnc61 := NB150_154.out; have hcz62_0 : w59.cell? ⟨gb154, 0, none⟩ = some (.int .i64 0) := (blk_cell BK154.out 0).trans rfl; have hcz62_1 : w59.cell? ⟨gb154, 1, none⟩ = some (.int .i64 0) := (blk_cell BK154.out 1).trans rfl; have hfz62_0 := blk_frozen BK154.out 0; have hfz62_1 := blk_frozen BK154.out 1; have hnb63 := NB150_146.out; have hnc63 := NB146_150.out; have hcz64_0 : w59.cell? ⟨gb150, 0, none⟩ = some (.int .i64 t147) := (blk_cell BK150.out 0).trans rfl; have hcz64_1 : w59.cell? ⟨gb150, 1, none⟩ = some (.int .i64 t148) := (blk_cell BK150.out 1).trans rfl; have hfz64_0 := blk_frozen BK150.out 0; have hfz64_1 := blk_frozen BK150.out 1) | ((with_reducible refine gate_callee (f := 19) rfl ?_); refine goesL_ (some 74) rfl rfl Tryd.func19 (by kernel_rfl) rfl #[.agg #[.int .i64 t147, .int .i64 t148]] rfl (by (try simp only [List.map_toArray, List.map_cons, List.map_nil]); first | done | rfl | (simp only [List.length_drop, List.length_take]; rfl)) ?_; (with_reducible refine (impl_FracOk.calls kj8 t147 t148 true _ A32.out).mono ?_); rintro e w65 ⟨rfl, hb⟩; refine ⟨_, rfl, ?_⟩; have n0_ := Aside0.mk (blk_below (g := gb146) (o := .cells #[.int .i64 t143, .int .i64 t144] 38 (0, 0)) (by (with_reducible repeat (first | refine blk_drewN ?_ _ | refine blk_drew ?_ | refine blk_alloc ?_ _)); refine blk_far ?_ NB146_154.out _; (with_reducible repeat (first | refine blk_drewN ?_ _ | refine blk_drew ?_ | refine blk_alloc ?_ _)); refine blk_far ?_ NB146_154.out _; (with_reducible repeat (first | refine blk_drewN ?_ _ | refine blk_drew ?_ | refine blk_alloc ?_ _)); exact BK146.out) hb); have n1_ := Aside0.mk (blk_below (g := gb150) (o := .cells #[.int .i64 t147, .int .i64 t148] 38 (0, 0)) (by (with_reducible repeat (first | refine blk_drewN ?_ _ | refine blk_drew ?_ | refine blk_alloc ?_ _)); refine blk_far ?_ NB150_154.out _; (with_reducible repeat (first | refine blk_drewN ?_ _ | refine blk_drew ?_ | refine blk_alloc ?_ _)); refine blk_far ?_ NB150_154.out _; (with_reducible repeat (first | refine blk_drewN ?_ _ | refine blk_drew ?_ | refine blk_alloc ?_ _)); exact BK150.out) hb); have n2_ := Aside0.mk (blk_below (g := gb154) (o := .cells #[.int .i64 t151, .int .i64 t152] 38 (0, 0)) (by (with_reducible repeat (first | refine blk_drewN ?_ _ | refine blk_drew ?_ | refine blk_alloc ?_ _)); refine blk_put (cs := #[.int .i64 t151, .int .i64 0]) ?_ 1 _ rfl; (with_reducible repeat (first | refine blk_drewN ?_ _ | refine blk_drew ?_ | refine blk_alloc ?_ _)); refine blk_put (cs := #[.int .i64 0, .int .i64 0]) ?_ 0 _ rfl; (with_reducible repeat (first | refine blk_drewN ?_ _ | refine blk_drew ?_ | refine blk_alloc ?_ _)); exact BK154.out) hb); have n3_ := Aside0.mk (below_step (by repeat (first | (with_reducible first | exact HB.out | apply below_alloc | apply pw_below_drewN | apply below_drew1 | refine below_set ?_ GE146.out | refine below_set ?_ GE150.out | refine below_set ?_ GE154.out) | exact HB.out)) hb); clear BK146; clear BK150; clear BK154; clear HB; have BK146 := n0_; have BK150 := n1_; have BK154 := n2_; have HB := n3_; clear n0_ n1_ n2_ n3_; (try clear hb); (try clear hb2); (try clear hk); (try clear hi); have hcz66_0 : w65.cell? ⟨gb150, 0, none⟩ = some (.int .i64 t147) := (blk_cell BK150.out 0).trans rfl; have hcz66_1 : w65.cell? ⟨gb150, 1, none⟩ = some (.int .i64 t148) := (blk_cell BK150.out 1).trans rfl; have hfz66_0 := blk_frozen BK150.out 0; have hfz66_1 := blk_frozen BK150.out 1; have hcz67_0 : w65.cell? ⟨gb154, 0, none⟩ = some (.int .i64 t151) := (blk_cell BK154.out 0).trans rfl; have hcz67_1 : w65.cell? ⟨gb154, 1, none⟩ = some (.int .i64 t152) := (blk_cell BK154.out 1).trans rfl; have hfz67_0 := blk_frozen BK154.out 0; have hfz67_1 := blk_frozen BK154.out 1))
           go_ret
           exact ⟨by first | rfl | (simp [errW_none, errW_some] <;> rfl) | (simp [*, errW_none, errW_some] <;> rfl), by repeat (first | (with_reducible first | exact HB.out | apply below_alloc | apply pw_below_drewN | apply below_drew1 | refine below_set ?_ GE146.out | refine below_set ?_ GE150.out | refine below_set ?_ GE154.out) | exact HB.out)⟩
          ·replace c57 := Bool.eq_false_iff.mpr c57; subst c57; have H1 : (if (wrap64 (t141 * (1 + ((l1.length : Int) % 9)))) ≤ 99999 then (some (false == (decide ((wrap64 (t142 * (1 + ((l1.length : Int) % 9)))) ≤ 99999)))) else (some (false == false))) = some r := by rw [if_neg (show ¬ (false = true) by decide)] at H; exact H
           clear H; have H := H1; clear H1; by_cases c68 : (wrap64 (t141 * (1 + ((l1.length : Int) % 9)))) ≤ 99999
           ·rw [if_pos c68] at H; have c68b0 : decide ((wrap64 (t141 * (1 + ((l1.length : Int) % 9)))) ≤ 99999) = true := decide_eq_true c68; clear c68; obtain rfl := Option.some.inj H; go_wp2_with (first | ((with_reducible refine gate_callee (f := 27) rfl ?_); refine goesL_ (some 70) rfl rfl Tryd.func27 (by kernel_rfl) rfl #[.int .i64 (wrap64 (t141 * (1 + ((l1.length : Int) % 9)))), .int .i64 (wrap64 (t142 * (1 + ((l1.length : Int) % 9))))] rfl (by (try simp only [List.map_toArray, List.map_cons, List.map_nil]); first | done | rfl | (simp only [List.length_drop, List.length_take]; rfl)) ?_; (with_reducible refine (impl_FracOf.calls kj8 (wrap64 (t141 * (1 + ((l1.length : Int) % 9)))) (wrap64 (t142 * (1 + ((l1.length : Int) % 9)))) t151 t152 false _ A31.out).mono ?_); rintro e w69 ⟨rfl, hb⟩; refine ⟨_, rfl, ?_⟩; have n0_ := Aside0.mk (blk_below (g := gb146) (o := .cells #[.int .i64 t143, .int .i64 t144] 38 (0, 0)) (by (with_reducible repeat (first | refine blk_drewN ?_ _ | refine blk_drew ?_ | refine blk_alloc ?_ _)); exact BK146.out) hb); have n1_ := Aside0.mk (blk_below (g := gb150) (o := .cells #[.int .i64 t147, .int .i64 t148] 38 (0, 0)) (by (with_reducible repeat (first | refine blk_drewN ?_ _ | refine blk_drew ?_ | refine blk_alloc ?_ _)); exact BK150.out) hb); have n2_ := Aside0.mk (below_step (by repeat (first | (with_reducible first | exact HB.out | apply below_alloc | apply pw_below_drewN | apply below_drew1 | refine below_set ?_ GE146.out | refine below_set ?_ GE150.out) | exact HB.out)) hb); clear BK146; clear BK150; clear HB; have BK146 := n0_; have BK150 := n1_; have HB := n2_; clear n0_ n1_ n2_; (try clear hb); (try clear hb2); (try clear hk); (try clear hi)) | ((with_reducible refine gate_dst (N := 12) rfl ?_); refine box_event ?hg (N := 12) ?hd (cs := #[.int .i64 0, .int .i64 0]) (t := 38) ?hr ?_; (case hd => rfl); (case hg => rfl); (case hr => first | (go_simp; done) | (go_simp; rfl)); intro gb154 hg w70 hbox hb; have n0_ := Aside0.mk (blk_below (g := gb146) (o := .cells #[.int .i64 t143, .int .i64 t144] 38 (0, 0)) (by (with_reducible repeat (first | refine blk_drewN ?_ _ | refine blk_drew ?_ | refine blk_alloc ?_ _)); exact BK146.out) hb); have n1_ := Aside0.mk (blk_below (g := gb150) (o := .cells #[.int .i64 t147, .int .i64 t148] 38 (0, 0)) (by (with_reducible repeat (first | refine blk_drewN ?_ _ | refine blk_drew ?_ | refine blk_alloc ?_ _)); exact BK150.out) hb); have n2_ := Aside0.mk (below_step (by repeat (first | (with_reducible first | exact HB.out | apply below_alloc | apply pw_below_drewN | apply below_drew1 | refine below_set ?_ GE146.out | refine below_set ?_ GE150.out) | exact HB.out)) hb); have n3_ := Aside0.mk (hbox); have n4_ := Aside0.mk ((by rw [hg]; exact (below_size (by repeat (first | (with_reducible first | exact HB.out | apply below_alloc | apply pw_below_drewN | apply below_drew1 | refine below_set ?_ GE146.out | refine below_set ?_ GE150.out) | exact HB.out))) : w.heap.size ≤ gb154)); have n5_ := Aside0.mk ((by rw [hg]; exact (below_size (by repeat (first | (with_reducible first | exact HB.out | apply below_alloc | apply pw_below_drewN | apply below_drew1 | refine below_set ?_ GE146.out | refine below_set ?_ GE150.out) | exact HB.out))) : w.heap.size ≤ gb154)); have n6_ := Aside0.mk ((by rw [hg]; exact Nat.ne_of_lt (blk_lt (g := gb146) (o := .cells #[.int .i64 t143, .int .i64 t144] 38 (0, 0)) (by (with_reducible repeat (first | refine blk_drewN ?_ _ | refine blk_drew ?_ | refine blk_alloc ?_ _)); exact BK146.out)) : gb146 ≠ gb154)); have n7_ := Aside0.mk ((by rw [hg]; exact Nat.ne_of_gt (blk_lt (g := gb146) (o := .cells #[.int .i64 t143, .int .i64 t144] 38 (0, 0)) (by (with_reducible repeat (first | refine blk_drewN ?_ _ | refine blk_drew ?_ | refine blk_alloc ?_ _)); exact BK146.out)) : gb154 ≠ gb146)); have n8_ := Aside0.mk ((by rw [hg]; exact Nat.ne_of_lt (blk_lt (g := gb150) (o := .cells #[.int .i64 t147, .int .i64 t148] 38 (0, 0)) (by (with_reducible repeat (first | refine blk_drewN ?_ _ | refine blk_drew ?_ | refine blk_alloc ?_ _)); exact BK150.out)) : gb150 ≠ gb154)); have n9_ := Aside0.mk ((by rw [hg]; exact Nat.ne_of_gt (blk_lt (g := gb150) (o := .cells #[.int .i64 t147, .int .i64 t148] 38 (0, 0)) (by (with_reducible repeat (first | refine blk_drewN ?_ _ | refine blk_drew ?_ | refine blk_alloc ?_ _)); exact BK150.out)) : gb154 ≠ gb150)); clear BK146; clear BK150; clear HB; have BK146 := n0_; have BK150 := n1_; have HB := n2_; have BK154 := n3_; have GW154 := n4_; have GE154 := n5_; have NB146_154 := n6_; have NB154_146 := n7_; have NB150_154 := n8_; have NB154_150 := n9_; clear n0_ n1_ n2_ n3_ n4_ n5_ n6_ n7_ n8_ n9_; clear hb hbox hg; have hnb71 := NB154_146.out; have hnc71 := NB146_154.out; have hnb72 := NB154_150.out; have hnc72 := NB150_154.out; have hcz73_0 : w70.cell? ⟨gb154, 0, none⟩ = some (.int .i64 0) := (blk_cell BK154.out 0).trans rfl; have hcz73_1 : w70.cell? ⟨gb154, 1, none⟩ = some (.int .i64 0) := (blk_cell BK154.out 1).trans rfl; have hfz73_0 := blk_frozen BK154.out 0; have hfz73_1 := blk_frozen BK154.out 1; have hnb74 := NB150_146.out; have hnc74 := NB146_150.out; have hcz75_0 : w70.cell? ⟨gb150, 0, none⟩ = some (.int .i64 t147) := (blk_cell BK150.out 0).trans rfl; have hcz75_1 : w70.cell? ⟨gb150, 1, none⟩ = some (.int .i64 t148) := (blk_cell BK150.out 1).trans rfl; have hfz75_0 := blk_frozen BK150.out 0; have hfz75_1 := blk_frozen BK150.out 1) | ((with_reducible refine gate_callee (f := 19) rfl ?_); refine goesL_ (some 74) rfl rfl Tryd.func19 (by kernel_rfl) rfl #[.agg #[.int .i64 t147, .int .i64 t148]] rfl (by (try simp only [List.map_toArray, List.map_cons, List.map_nil]); first | done | rfl | (simp only [List.length_drop, List.length_take]; rfl)) ?_; (with_reducible refine (impl_FracOk.calls kj8 t147 t148 true _ A32.out).mono ?_); rintro e w76 ⟨rfl, hb⟩; refine ⟨_, rfl, ?_⟩; have n0_ := Aside0.mk (blk_below (g := gb146) (o := .cells #[.int .i64 t143, .int .i64 t144] 38 (0, 0)) (by (with_reducible repeat (first | refine blk_drewN ?_ _ | refine blk_drew ?_ | refine blk_alloc ?_ _)); refine blk_far ?_ NB146_154.out _; (with_reducible repeat (first | refine blk_drewN ?_ _ | refine blk_drew ?_ | refine blk_alloc ?_ _)); refine blk_far ?_ NB146_154.out _; (with_reducible repeat (first | refine blk_drewN ?_ _ | refine blk_drew ?_ | refine blk_alloc ?_ _)); exact BK146.out) hb); have n1_ := Aside0.mk (blk_below (g := gb150) (o := .cells #[.int .i64 t147, .int .i64 t148] 38 (0, 0)) (by (with_reducible repeat (first | refine blk_drewN ?_ _ | refine blk_drew ?_ | refine blk_alloc ?_ _)); refine blk_far ?_ NB150_154.out _; (with_reducible repeat (first | refine blk_drewN ?_ _ | refine blk_drew ?_ | refine blk_alloc ?_ _)); refine blk_far ?_ NB150_154.out _; (with_reducible repeat (first | refine blk_drewN ?_ _ | refine blk_drew ?_ | refine blk_alloc ?_ _)); exact BK150.out) hb); have n2_ := Aside0.mk (blk_below (g := gb154) (o := .cells #[.int .i64 t151, .int .i64 t152] 38 (0, 0)) (by (with_reducible repeat (first | refine blk_drewN ?_ _ | refine blk_drew ?_ | refine blk_alloc ?_ _)); refine blk_put (cs := #[.int .i64 t151, .int .i64 0]) ?_ 1 _ rfl; (with_reducible repeat (first | refine blk_drewN ?_ _ | refine blk_drew ?_ | refine blk_alloc ?_ _)); refine blk_put (cs := #[.int .i64 0, .int .i64 0]) ?_ 0 _ rfl; (with_reducible repeat (first | refine blk_drewN ?_ _ | refine blk_drew ?_ | refine blk_alloc ?_ _)); exact BK154.out) hb); have n3_ := Aside0.mk (below_step (by repeat (first | (with_reducible first | exact HB.out | apply below_alloc | apply pw_below_drewN | apply below_drew1 | refine below_set ?_ GE146.out | refine below_set ?_ GE150.out | refine below_set ?_ GE154.out) | exact HB.out)) hb); clear BK146; clear BK150; clear BK154; clear HB; have BK146 := n0_; have BK150 := n1_; have BK154 := n2_; have HB := n3_; clear n0_ n1_ n2_ n3_; (try clear hb); (try clear hb2); (try clear hk); (try clear hi); have hcz77_0 : w76.cell? ⟨gb150, 0, none⟩ = some (.int .i64 t147) := (blk_cell BK150.out 0).trans rfl; have hcz77_1 : w76.cell? ⟨gb150, 1, none⟩ = some (.int .i64 t148) := (blk_cell BK150.out 1).trans rfl; have hfz77_0 := blk_frozen BK150.out 0; have hfz77_1 := blk_frozen BK150.out 1; have hcz78_0 : w76.cell? ⟨gb154, 0, none⟩ = some (.int .i64 t151) := (blk_cell BK154.out 0).trans rfl; have hcz78_1 : w76.cell? ⟨gb154, 1, none⟩ = some (.int .i64 t152) := (blk_cell BK154.out 1).trans rfl; have hfz78_0 := blk_frozen BK154.out 0; have hfz78_1 := blk_frozen BK154.out 1))
            go_ret
            exact ⟨by first | rfl | (simp [errW_none, errW_some] <;> rfl) | (simp [*, errW_none, errW_some] <;> rfl), by repeat (first | (with_reducible first | exact HB.out | apply below_alloc | apply pw_below_drewN | apply below_drew1 | refine below_set ?_ GE146.out | refine below_set ?_ GE150.out | refine below_set ?_ GE154.out) | exact HB.out)⟩
           ·rw [if_neg c68] at H; have c68b0 : decide ((wrap64 (t141 * (1 + ((l1.length : Int) % 9)))) ≤ 99999) = false := decide_eq_false c68; clear c68; obtain rfl := Option.some.inj H; go_wp2_with (first | ((with_reducible refine gate_callee (f := 27) rfl ?_); refine goesL_ (some 70) rfl rfl Tryd.func27 (by kernel_rfl) rfl #[.int .i64 (wrap64 (t141 * (1 + ((l1.length : Int) % 9)))), .int .i64 (wrap64 (t142 * (1 + ((l1.length : Int) % 9))))] rfl (by (try simp only [List.map_toArray, List.map_cons, List.map_nil]); first | done | rfl | (simp only [List.length_drop, List.length_take]; rfl)) ?_; (with_reducible refine (impl_FracOf.calls kj8 (wrap64 (t141 * (1 + ((l1.length : Int) % 9)))) (wrap64 (t142 * (1 + ((l1.length : Int) % 9)))) t151 t152 false _ A31.out).mono ?_); rintro e w79 ⟨rfl, hb⟩; refine ⟨_, rfl, ?_⟩; have n0_ := Aside0.mk (blk_below (g := gb146) (o := .cells #[.int .i64 t143, .int .i64 t144] 38 (0, 0)) (by (with_reducible repeat (first | refine blk_drewN ?_ _ | refine blk_drew ?_ | refine blk_alloc ?_ _)); exact BK146.out) hb); have n1_ := Aside0.mk (blk_below (g := gb150) (o := .cells #[.int .i64 t147, .int .i64 t148] 38 (0, 0)) (by (with_reducible repeat (first | refine blk_drewN ?_ _ | refine blk_drew ?_ | refine blk_alloc ?_ _)); exact BK150.out) hb); have n2_ := Aside0.mk (below_step (by repeat (first | (with_reducible first | exact HB.out | apply below_alloc | apply pw_below_drewN | apply below_drew1 | refine below_set ?_ GE146.out | refine below_set ?_ GE150.out) | exact HB.out)) hb); clear BK146; clear BK150; clear HB; have BK146 := n0_; have BK150 := n1_; have HB := n2_; clear n0_ n1_ n2_; (try clear hb); (try clear hb2); (try clear hk); (try clear hi)) | ((with_reducible refine gate_dst (N := 12) rfl ?_); refine box_event ?hg (N := 12) ?hd (cs := #[.int .i64 0, .int .i64 0]) (t := 38) ?hr ?_; (case hd => rfl); (case hg => rfl); (case hr => first | (go_simp; done) | (go_simp; rfl)); intro gb154 hg w80 hbox hb; have n0_ := Aside0.mk (blk_below (g := gb146) (o := .cells #[.int .i64 t143, .int .i64 t144] 38 (0, 0)) (by (with_reducible repeat (first | refine blk_drewN ?_ _ | refine blk_drew ?_ | refine blk_alloc ?_ _)); exact BK146.out) hb); have n1_ := Aside0.mk (blk_below (g := gb150) (o := .cells #[.int .i64 t147, .int .i64 t148] 38 (0, 0)) (by (with_reducible repeat (first | refine blk_drewN ?_ _ | refine blk_drew ?_ | refine blk_alloc ?_ _)); exact BK150.out) hb); have n2_ := Aside0.mk (below_step (by repeat (first | (with_reducible first | exact HB.out | apply below_alloc | apply pw_below_drewN | apply below_drew1 | refine below_set ?_ GE146.out | refine below_set ?_ GE150.out) | exact HB.out)) hb); have n3_ := Aside0.mk (hbox); have n4_ := Aside0.mk ((by rw [hg]; exact (below_size (by repeat (first | (with_reducible first | exact HB.out | apply below_alloc | apply pw_below_drewN | apply below_drew1 | refine below_set ?_ GE146.out | refine below_set ?_ GE150.out) | exact HB.out))) : w.heap.size ≤ gb154)); have n5_ := Aside0.mk ((by rw [hg]; exact (below_size (by repeat (first | (with_reducible first | exact HB.out | apply below_alloc | apply pw_below_drewN | apply below_drew1 | refine below_set ?_ GE146.out | refine below_set ?_ GE150.out) | exact HB.out))) : w.heap.size ≤ gb154)); have n6_ := Aside0.mk ((by rw [hg]; exact Nat.ne_of_lt (blk_lt (g := gb146) (o := .cells #[.int .i64 t143, .int .i64 t144] 38 (0, 0)) (by (with_reducible repeat (first | refine blk_drewN ?_ _ | refine blk_drew ?_ | refine blk_alloc ?_ _)); exact BK146.out)) : gb146 ≠ gb154)); have n7_ := Aside0.mk ((by rw [hg]; exact Nat.ne_of_gt (blk_lt (g := gb146) (o := .cells #[.int .i64 t143, .int .i64 t144] 38 (0, 0)) (by (with_reducible repeat (first | refine blk_drewN ?_ _ | refine blk_drew ?_ | refine blk_alloc ?_ _)); exact BK146.out)) : gb154 ≠ gb146)); have n8_ := Aside0.mk ((by rw [hg]; exact Nat.ne_of_lt (blk_lt (g := gb150) (o := .cells #[.int .i64 t147, .int .i64 t148] 38 (0, 0)) (by (with_reducible repeat (first | refine blk_drewN ?_ _ | refine blk_drew ?_ | refine blk_alloc ?_ _)); exact BK150.out)) : gb150 ≠ gb154)); have n9_ := Aside0.mk ((by rw [hg]; exact Nat.ne_of_gt (blk_lt (g := gb150) (o := .cells #[.int .i64 t147, .int .i64 t148] 38 (0, 0)) (by (with_reducible repeat (first | refine blk_drewN ?_ _ | refine blk_drew ?_ | refine blk_alloc ?_ _)); exact BK150.out)) : gb154 ≠ gb150)); clear BK146; clear BK150; clear HB; have BK146 := n0_; have BK150 := n1_; have HB := n2_; have BK154 := n3_; have GW154 := n4_; have GE154 := n5_; have NB146_154 := n6_; have NB154_146 := n7_; have NB150_154 := n8_; have NB154_150 := n9_; clear n0_ n1_ n2_ n3_ n4_ n5_ n6_ n7_ n8_ n9_; clear hb hbox hg; have hnb81 := NB154_146.out; have hnc81 := NB146_154.out; have hnb82 := NB154_150.out; have hnc82 := NB150_154.out; have hcz83_0 : w80.cell? ⟨gb154, 0, none⟩ = some (.int .i64 0) := (blk_cell BK154.out 0).trans rfl; have hcz83_1 : w80.cell? ⟨gb154, 1, none⟩ = some (.int .i64 0) := (blk_cell BK154.out 1).trans rfl; have hfz83_0 := blk_frozen BK154.out 0; have hfz83_1 := blk_frozen BK154.out 1; have hnb84 := NB150_146.out; have hnc84 := NB146_150.out; have hcz85_0 : w80.cell? ⟨gb150, 0, none⟩ = some (.int .i64 t147) := (blk_cell BK150.out 0).trans rfl; have hcz85_1 : w80.cell? ⟨gb150, 1, none⟩ = some (.int .i64 t148) := (blk_cell BK150.out 1).trans rfl; have hfz85_0 := blk_frozen BK150.out 0; have hfz85_1 := blk_frozen BK150.out 1) | ((with_reducible refine gate_callee (f := 19) rfl ?_); refine goesL_ (some 74) rfl rfl Tryd.func19 (by kernel_rfl) rfl #[.agg #[.int .i64 t147, .int .i64 t148]] rfl (by (try simp only [List.map_toArray, List.map_cons, List.map_nil]); first | done | rfl | (simp only [List.length_drop, List.length_take]; rfl)) ?_; (with_reducible refine (impl_FracOk.calls kj8 t147 t148 true _ A32.out).mono ?_); rintro e w86 ⟨rfl, hb⟩; refine ⟨_, rfl, ?_⟩; have n0_ := Aside0.mk (blk_below (g := gb146) (o := .cells #[.int .i64 t143, .int .i64 t144] 38 (0, 0)) (by (with_reducible repeat (first | refine blk_drewN ?_ _ | refine blk_drew ?_ | refine blk_alloc ?_ _)); refine blk_far ?_ NB146_154.out _; (with_reducible repeat (first | refine blk_drewN ?_ _ | refine blk_drew ?_ | refine blk_alloc ?_ _)); refine blk_far ?_ NB146_154.out _; (with_reducible repeat (first | refine blk_drewN ?_ _ | refine blk_drew ?_ | refine blk_alloc ?_ _)); exact BK146.out) hb); have n1_ := Aside0.mk (blk_below (g := gb150) (o := .cells #[.int .i64 t147, .int .i64 t148] 38 (0, 0)) (by (with_reducible repeat (first | refine blk_drewN ?_ _ | refine blk_drew ?_ | refine blk_alloc ?_ _)); refine blk_far ?_ NB150_154.out _; (with_reducible repeat (first | refine blk_drewN ?_ _ | refine blk_drew ?_ | refine blk_alloc ?_ _)); refine blk_far ?_ NB150_154.out _; (with_reducible repeat (first | refine blk_drewN ?_ _ | refine blk_drew ?_ | refine blk_alloc ?_ _)); exact BK150.out) hb); have n2_ := Aside0.mk (blk_below (g := gb154) (o := .cells #[.int .i64 t151, .int .i64 t152] 38 (0, 0)) (by (with_reducible repeat (first | refine blk_drewN ?_ _ | refine blk_drew ?_ | refine blk_alloc ?_ _)); refine blk_put (cs := #[.int .i64 t151, .int .i64 0]) ?_ 1 _ rfl; (with_reducible repeat (first | refine blk_drewN ?_ _ | refine blk_drew ?_ | refine blk_alloc ?_ _)); refine blk_put (cs := #[.int .i64 0, .int .i64 0]) ?_ 0 _ rfl; (with_reducible repeat (first | refine blk_drewN ?_ _ | refine blk_drew ?_ | refine blk_alloc ?_ _)); exact BK154.out) hb); have n3_ := Aside0.mk (below_step (by repeat (first | (with_reducible first | exact HB.out | apply below_alloc | apply pw_below_drewN | apply below_drew1 | refine below_set ?_ GE146.out | refine below_set ?_ GE150.out | refine below_set ?_ GE154.out) | exact HB.out)) hb); clear BK146; clear BK150; clear BK154; clear HB; have BK146 := n0_; have BK150 := n1_; have BK154 := n2_; have HB := n3_; clear n0_ n1_ n2_ n3_; (try clear hb); (try clear hb2); (try clear hk); (try clear hi); have hcz87_0 : w86.cell? ⟨gb150, 0, none⟩ = some (.int .i64 t147) := (blk_cell BK150.out 0).trans rfl; have hcz87_1 : w86.cell? ⟨gb150, 1, none⟩ = some (.int .i64 t148) := (blk_cell BK150.out 1).trans rfl; have hfz87_0 := blk_frozen BK150.out 0; have hfz87_1 := blk_frozen BK150.out 1; have hcz88_0 : w86.cell? ⟨gb154, 0, none⟩ = some (.int .i64 t151) := (blk_cell BK154.out 0).trans rfl; have hcz88_1 : w86.cell? ⟨gb154, 1, none⟩ = some (.int .i64 t152) := (blk_cell BK154.out 1).trans rfl; have hfz88_0 := blk_frozen BK154.out 0; have hfz88_1 := blk_frozen BK154.out 1))
            go_ret
            exact ⟨by first | rfl | (simp [errW_none, errW_some] <;> rfl) | (simp [*, errW_none, errW_some] <;> rfl), by repeat (first | (with_reducible first | exact HB.out | apply below_alloc | apply pw_below_drewN | apply below_drew1 | refine below_set ?_ GE146.out | refine below_set ?_ GE150.out | refine below_set ?_ GE154.out) | exact HB.out)⟩
        ·rw [if_neg c34] at H; have c34b0 : ((wrap64 (t147 * t142)) == (wrap64 (t141 * t148))) = false := beq_eq_false_iff_ne.mpr c34; have c34b1 : ((wrap64 (t147 * t142)) != (wrap64 (t141 * t148))) = true := bne_iff_ne.mpr c34; obtain rfl := Option.some.inj H; go_wp2_with (first | ((with_reducible refine gate_callee (f := 27) rfl ?_); refine goesL_ (some 70) rfl rfl Tryd.func27 (by kernel_rfl) rfl #[.int .i64 (wrap64 (t141 * (1 + ((l1.length : Int) % 9)))), .int .i64 (wrap64 (t142 * (1 + ((l1.length : Int) % 9))))] rfl (by (try simp only [List.map_toArray, List.map_cons, List.map_nil]); first | done | rfl | (simp only [List.length_drop, List.length_take]; rfl)) ?_; (with_reducible refine (impl_FracOf.calls kj8 (wrap64 (t141 * (1 + ((l1.length : Int) % 9)))) (wrap64 (t142 * (1 + ((l1.length : Int) % 9)))) t151 t152 t153 _ A31.out).mono ?_); rintro e w89 ⟨rfl, hb⟩; refine ⟨_, rfl, ?_⟩; have n0_ := Aside0.mk (blk_below (g := gb146) (o := .cells #[.int .i64 t143, .int .i64 t144] 38 (0, 0)) (by (with_reducible repeat (first | refine blk_drewN ?_ _ | refine blk_drew ?_ | refine blk_alloc ?_ _)); exact BK146.out) hb); have n1_ := Aside0.mk (blk_below (g := gb150) (o := .cells #[.int .i64 t147, .int .i64 t148] 38 (0, 0)) (by (with_reducible repeat (first | refine blk_drewN ?_ _ | refine blk_drew ?_ | refine blk_alloc ?_ _)); exact BK150.out) hb); have n2_ := Aside0.mk (below_step (by repeat (first | (with_reducible first | exact HB.out | apply below_alloc | apply pw_below_drewN | apply below_drew1 | refine below_set ?_ GE146.out | refine below_set ?_ GE150.out) | exact HB.out)) hb); clear BK146; clear BK150; clear HB; have BK146 := n0_; have BK150 := n1_; have HB := n2_; clear n0_ n1_ n2_; (try clear hb); (try clear hb2); (try clear hk); (try clear hi)) | ((with_reducible refine gate_dst (N := 12) rfl ?_); refine box_event ?hg (N := 12) ?hd (cs := #[.int .i64 0, .int .i64 0]) (t := 38) ?hr ?_; (case hd => rfl); (case hg => rfl); (case hr => first | (go_simp; done) | (go_simp; rfl)); intro gb154 hg w90 hbox hb; have n0_ := Aside0.mk (blk_below (g := gb146) (o := .cells #[.int .i64 t143, .int .i64 t144] 38 (0, 0)) (by (with_reducible repeat (first | refine blk_drewN ?_ _ | refine blk_drew ?_ | refine blk_alloc ?_ _)); exact BK146.out) hb); have n1_ := Aside0.mk (blk_below (g := gb150) (o := .cells #[.int .i64 t147, .int .i64 t148] 38 (0, 0)) (by (with_reducible repeat (first | refine blk_drewN ?_ _ | refine blk_drew ?_ | refine blk_alloc ?_ _)); exact BK150.out) hb); have n2_ := Aside0.mk (below_step (by repeat (first | (with_reducible first | exact HB.out | apply below_alloc | apply pw_below_drewN | apply below_drew1 | refine below_set ?_ GE146.out | refine below_set ?_ GE150.out) | exact HB.out)) hb); have n3_ := Aside0.mk (hbox); have n4_ := Aside0.mk ((by rw [hg]; exact (below_size (by repeat (first | (with_reducible first | exact HB.out | apply below_alloc | apply pw_below_drewN | apply below_drew1 | refine below_set ?_ GE146.out | refine below_set ?_ GE150.out) | exact HB.out))) : w.heap.size ≤ gb154)); have n5_ := Aside0.mk ((by rw [hg]; exact (below_size (by repeat (first | (with_reducible first | exact HB.out | apply below_alloc | apply pw_below_drewN | apply below_drew1 | refine below_set ?_ GE146.out | refine below_set ?_ GE150.out) | exact HB.out))) : w.heap.size ≤ gb154)); have n6_ := Aside0.mk ((by rw [hg]; exact Nat.ne_of_lt (blk_lt (g := gb146) (o := .cells #[.int .i64 t143, .int .i64 t144] 38 (0, 0)) (by (with_reducible repeat (first | refine blk_drewN ?_ _ | refine blk_drew ?_ | refine blk_alloc ?_ _)); exact BK146.out)) : gb146 ≠ gb154)); have n7_ := Aside0.mk ((by rw [hg]; exact Nat.ne_of_gt (blk_lt (g := gb146) (o := .cells #[.int .i64 t143, .int .i64 t144] 38 (0, 0)) (by (with_reducible repeat (first | refine blk_drewN ?_ _ | refine blk_drew ?_ | refine blk_alloc ?_ _)); exact BK146.out)) : gb154 ≠ gb146)); have n8_ := Aside0.mk ((by rw [hg]; exact Nat.ne_of_lt (blk_lt (g := gb150) (o := .cells #[.int .i64 t147, .int .i64 t148] 38 (0, 0)) (by (with_reducible repeat (first | refine blk_drewN ?_ _ | refine blk_drew ?_ | refine blk_alloc ?_ _)); exact BK150.out)) : gb150 ≠ gb154)); have n9_ := Aside0.mk ((by rw [hg]; exact Nat.ne_of_gt (blk_lt (g := gb150) (o := .cells #[.int .i64 t147, .int .i64 t148] 38 (0, 0)) (by (with_reducible repeat (first | refine blk_drewN ?_ _ | refine blk_drew ?_ | refine blk_alloc ?_ _)); exact BK150.out)) : gb154 ≠ gb150)); clear BK146; clear BK150; clear HB; have BK146 := n0_; have BK150 := n1_; have HB := n2_; have BK154 := n3_; have GW154 := n4_; have GE154 := n5_; have NB146_154 := n6_; have NB154_146 := n7_; have NB150_154 := n8_; have NB154_150 := n9_; clear n0_ n1_ n2_ n3_ n4_ n5_ n6_ n7_ n8_ n9_; clear hb hbox hg; have hnb91 := NB154_146.out; have hnc91 := NB146_154.out; have hnb92 := NB154_150.out; have hnc92 := NB150_154.out; have hcz93_0 : w90.cell? ⟨gb154, 0, none⟩ = some (.int .i64 0) := (blk_cell BK154.out 0).trans rfl; have hcz93_1 : w90.cell? ⟨gb154, 1, none⟩ = some (.int .i64 0) := (blk_cell BK154.out 1).trans rfl; have hfz93_0 := blk_frozen BK154.out 0; have hfz93_1 := blk_frozen BK154.out 1; have hnb94 := NB150_146.out; have hnc94 := NB146_150.out; have hcz95_0 : w90.cell? ⟨gb150, 0, none⟩ = some (.int .i64 t147) := (blk_cell BK150.out 0).trans rfl; have hcz95_1 : w90.cell? ⟨gb150, 1, none⟩ = some (.int .i64 t148) := (blk_cell BK150.out 1).trans rfl; have hfz95_0 := blk_frozen BK150.out 0; have hfz95_1 := blk_frozen BK150.out 1) | ((with_reducible refine gate_callee (f := 19) rfl ?_); refine goesL_ (some 74) rfl rfl Tryd.func19 (by kernel_rfl) rfl #[.agg #[.int .i64 t147, .int .i64 t148]] rfl (by (try simp only [List.map_toArray, List.map_cons, List.map_nil]); first | done | rfl | (simp only [List.length_drop, List.length_take]; rfl)) ?_; (with_reducible refine (impl_FracOk.calls kj8 t147 t148 true _ A32.out).mono ?_); rintro e w96 ⟨rfl, hb⟩; refine ⟨_, rfl, ?_⟩; have n0_ := Aside0.mk (blk_below (g := gb146) (o := .cells #[.int .i64 t143, .int .i64 t144] 38 (0, 0)) (by (with_reducible repeat (first | refine blk_drewN ?_ _ | refine blk_drew ?_ | refine blk_alloc ?_ _)); refine blk_far ?_ NB146_154.out _; (with_reducible repeat (first | refine blk_drewN ?_ _ | refine blk_drew ?_ | refine blk_alloc ?_ _)); refine blk_far ?_ NB146_154.out _; (with_reducible repeat (first | refine blk_drewN ?_ _ | refine blk_drew ?_ | refine blk_alloc ?_ _)); exact BK146.out) hb); have n1_ := Aside0.mk (blk_below (g := gb150) (o := .cells #[.int .i64 t147, .int .i64 t148] 38 (0, 0)) (by (with_reducible repeat (first | refine blk_drewN ?_ _ | refine blk_drew ?_ | refine blk_alloc ?_ _)); refine blk_far ?_ NB150_154.out _; (with_reducible repeat (first | refine blk_drewN ?_ _ | refine blk_drew ?_ | refine blk_alloc ?_ _)); refine blk_far ?_ NB150_154.out _; (with_reducible repeat (first | refine blk_drewN ?_ _ | refine blk_drew ?_ | refine blk_alloc ?_ _)); exact BK150.out) hb); have n2_ := Aside0.mk (blk_below (g := gb154) (o := .cells #[.int .i64 t151, .int .i64 t152] 38 (0, 0)) (by (with_reducible repeat (first | refine blk_drewN ?_ _ | refine blk_drew ?_ | refine blk_alloc ?_ _)); refine blk_put (cs := #[.int .i64 t151, .int .i64 0]) ?_ 1 _ rfl; (with_reducible repeat (first | refine blk_drewN ?_ _ | refine blk_drew ?_ | refine blk_alloc ?_ _)); refine blk_put (cs := #[.int .i64 0, .int .i64 0]) ?_ 0 _ rfl; (with_reducible repeat (first | refine blk_drewN ?_ _ | refine blk_drew ?_ | refine blk_alloc ?_ _)); exact BK154.out) hb); have n3_ := Aside0.mk (below_step (by repeat (first | (with_reducible first | exact HB.out | apply below_alloc | apply pw_below_drewN | apply below_drew1 | refine below_set ?_ GE146.out | refine below_set ?_ GE150.out | refine below_set ?_ GE154.out) | exact HB.out)) hb); clear BK146; clear BK150; clear BK154; clear HB; have BK146 := n0_; have BK150 := n1_; have BK154 := n2_; have HB := n3_; clear n0_ n1_ n2_ n3_; (try clear hb); (try clear hb2); (try clear hk); (try clear hi); have hcz97_0 : w96.cell? ⟨gb150, 0, none⟩ = some (.int .i64 t147) := (blk_cell BK150.out 0).trans rfl; have hcz97_1 : w96.cell? ⟨gb150, 1, none⟩ = some (.int .i64 t148) := (blk_cell BK150.out 1).trans rfl; have hfz97_0 := blk_frozen BK150.out 0; have hfz97_1 := blk_frozen BK150.out 1))
         go_ret
         exact ⟨by first | rfl | (simp [errW_none, errW_some] <;> rfl) | (simp [*, errW_none, errW_some] <;> rfl), by repeat (first | (with_reducible first | exact HB.out | apply below_alloc | apply pw_below_drewN | apply below_drew1 | refine below_set ?_ GE146.out | refine below_set ?_ GE150.out | refine below_set ?_ GE154.out) | exact HB.out)⟩
       ·replace c33 := Bool.eq_false_iff.mpr c33; subst c33; have H1 : (some false) = some r := by rw [if_neg (show ¬ (false = true) by decide)] at H; exact H
        clear H; have H := H1; clear H1; obtain rfl := Option.some.inj H; go_wp2_with (first | ((with_reducible refine gate_callee (f := 27) rfl ?_); refine goesL_ (some 70) rfl rfl Tryd.func27 (by kernel_rfl) rfl #[.int .i64 (wrap64 (t141 * (1 + ((l1.length : Int) % 9)))), .int .i64 (wrap64 (t142 * (1 + ((l1.length : Int) % 9))))] rfl (by (try simp only [List.map_toArray, List.map_cons, List.map_nil]); first | done | rfl | (simp only [List.length_drop, List.length_take]; rfl)) ?_; (with_reducible refine (impl_FracOf.calls kj8 (wrap64 (t141 * (1 + ((l1.length : Int) % 9)))) (wrap64 (t142 * (1 + ((l1.length : Int) % 9)))) t151 t152 t153 _ A31.out).mono ?_); rintro e w98 ⟨rfl, hb⟩; refine ⟨_, rfl, ?_⟩; have n0_ := Aside0.mk (blk_below (g := gb146) (o := .cells #[.int .i64 t143, .int .i64 t144] 38 (0, 0)) (by (with_reducible repeat (first | refine blk_drewN ?_ _ | refine blk_drew ?_ | refine blk_alloc ?_ _)); exact BK146.out) hb); have n1_ := Aside0.mk (blk_below (g := gb150) (o := .cells #[.int .i64 t147, .int .i64 t148] 38 (0, 0)) (by (with_reducible repeat (first | refine blk_drewN ?_ _ | refine blk_drew ?_ | refine blk_alloc ?_ _)); exact BK150.out) hb); have n2_ := Aside0.mk (below_step (by repeat (first | (with_reducible first | exact HB.out | apply below_alloc | apply pw_below_drewN | apply below_drew1 | refine below_set ?_ GE146.out | refine below_set ?_ GE150.out) | exact HB.out)) hb); clear BK146; clear BK150; clear HB; have BK146 := n0_; have BK150 := n1_; have HB := n2_; clear n0_ n1_ n2_; (try clear hb); (try clear hb2); (try clear hk); (try clear hi)) | ((with_reducible refine gate_dst (N := 12) rfl ?_); refine box_event ?hg (N := 12) ?hd (cs := #[.int .i64 0, .int .i64 0]) (t := 38) ?hr ?_; (case hd => rfl); (case hg => rfl); (case hr => first | (go_simp; done) | (go_simp; rfl)); intro gb154 hg w99 hbox hb; have n0_ := Aside0.mk (blk_below (g := gb146) (o := .cells #[.int .i64 t143, .int .i64 t144] 38 (0, 0)) (by (with_reducible repeat (first | refine blk_drewN ?_ _ | refine blk_drew ?_ | refine blk_alloc ?_ _)); exact BK146.out) hb); have n1_ := Aside0.mk (blk_below (g := gb150) (o := .cells #[.int .i64 t147, .int .i64 t148] 38 (0, 0)) (by (with_reducible repeat (first | refine blk_drewN ?_ _ | refine blk_drew ?_ | refine blk_alloc ?_ _)); exact BK150.out) hb); have n2_ := Aside0.mk (below_step (by repeat (first | (with_reducible first | exact HB.out | apply below_alloc | apply pw_below_drewN | apply below_drew1 | refine below_set ?_ GE146.out | refine below_set ?_ GE150.out) | exact HB.out)) hb); have n3_ := Aside0.mk (hbox); have n4_ := Aside0.mk ((by rw [hg]; exact (below_size (by repeat (first | (with_reducible first | exact HB.out | apply below_alloc | apply pw_below_drewN | apply below_drew1 | refine below_set ?_ GE146.out | refine below_set ?_ GE150.out) | exact HB.out))) : w.heap.size ≤ gb154)); have n5_ := Aside0.mk ((by rw [hg]; exact (below_size (by repeat (first | (with_reducible first | exact HB.out | apply below_alloc | apply pw_below_drewN | apply below_drew1 | refine below_set ?_ GE146.out | refine below_set ?_ GE150.out) | exact HB.out))) : w.heap.size ≤ gb154)); have n6_ := Aside0.mk ((by rw [hg]; exact Nat.ne_of_lt (blk_lt (g := gb146) (o := .cells #[.int .i64 t143, .int .i64 t144] 38 (0, 0)) (by (with_reducible repeat (first | refine blk_drewN ?_ _ | refine blk_drew ?_ | refine blk_alloc ?_ _)); exact BK146.out)) : gb146 ≠ gb154)); have n7_ := Aside0.mk ((by rw [hg]; exact Nat.ne_of_gt (blk_lt (g := gb146) (o := .cells #[.int .i64 t143, .int .i64 t144] 38 (0, 0)) (by (with_reducible repeat (first | refine blk_drewN ?_ _ | refine blk_drew ?_ | refine blk_alloc ?_ _)); exact BK146.out)) : gb154 ≠ gb146)); have n8_ := Aside0.mk ((by rw [hg]; exact Nat.ne_of_lt (blk_lt (g := gb150) (o := .cells #[.int .i64 t147, .int .i64 t148] 38 (0, 0)) (by (with_reducible repeat (first | refine blk_drewN ?_ _ | refine blk_drew ?_ | refine blk_alloc ?_ _)); exact BK150.out)) : gb150 ≠ gb154)); have n9_ := Aside0.mk ((by rw [hg]; exact Nat.ne_of_gt (blk_lt (g := gb150) (o := .cells #[.int .i64 t147, .int .i64 t148] 38 (0, 0)) (by (with_reducible repeat (first | refine blk_drewN ?_ _ | refine blk_drew ?_ | refine blk_alloc ?_ _)); exact BK150.out)) : gb154 ≠ gb150)); clear BK146; clear BK150; clear HB; have BK146 := n0_; have BK150 := n1_; have HB := n2_; have BK154 := n3_; have GW154 := n4_; have GE154 := n5_; have NB146_154 := n6_; have NB154_146 := n7_; have NB150_154 := n8_; have NB154_150 := n9_; clear n0_ n1_ n2_ n3_ n4_ n5_ n6_ n7_ n8_ n9_; clear hb hbox hg; have hnb100 := NB154_146.out; have hnc100 := NB146_154.out; have hnb101 := NB154_150.out; have hnc101 := NB150_154.out; have hcz102_0 : w99.cell? ⟨gb154, 0, none⟩ = some (.int .i64 0) := (blk_cell BK154.out 0).trans rfl; have hcz102_1 : w99.cell? ⟨gb154, 1, none⟩ = some (.int .i64 0) := (blk_cell BK154.out 1).trans rfl; have hfz102_0 := blk_frozen BK154.out 0; have hfz102_1 := blk_frozen BK154.out 1; have hnb103 := NB150_146.out; have hnc103 := NB146_150.out; have hcz104_0 : w99.cell? ⟨gb150, 0, none⟩ = some (.int .i64 t147) := (blk_cell BK150.out 0).trans rfl; have hcz104_1 : w99.cell? ⟨gb150, 1, none⟩ = some (.int .i64 t148) := (blk_cell BK150.out 1).trans rfl; have hfz104_0 := blk_frozen BK150.out 0; have hfz104_1 := blk_frozen BK150.out 1) | ((with_reducible refine gate_callee (f := 19) rfl ?_); refine goesL_ (some 74) rfl rfl Tryd.func19 (by kernel_rfl) rfl #[.agg #[.int .i64 t147, .int .i64 t148]] rfl (by (try simp only [List.map_toArray, List.map_cons, List.map_nil]); first | done | rfl | (simp only [List.length_drop, List.length_take]; rfl)) ?_; (with_reducible refine (impl_FracOk.calls kj8 t147 t148 false _ A32.out).mono ?_); rintro e w105 ⟨rfl, hb⟩; refine ⟨_, rfl, ?_⟩; have n0_ := Aside0.mk (blk_below (g := gb146) (o := .cells #[.int .i64 t143, .int .i64 t144] 38 (0, 0)) (by (with_reducible repeat (first | refine blk_drewN ?_ _ | refine blk_drew ?_ | refine blk_alloc ?_ _)); refine blk_far ?_ NB146_154.out _; (with_reducible repeat (first | refine blk_drewN ?_ _ | refine blk_drew ?_ | refine blk_alloc ?_ _)); refine blk_far ?_ NB146_154.out _; (with_reducible repeat (first | refine blk_drewN ?_ _ | refine blk_drew ?_ | refine blk_alloc ?_ _)); exact BK146.out) hb); have n1_ := Aside0.mk (blk_below (g := gb150) (o := .cells #[.int .i64 t147, .int .i64 t148] 38 (0, 0)) (by (with_reducible repeat (first | refine blk_drewN ?_ _ | refine blk_drew ?_ | refine blk_alloc ?_ _)); refine blk_far ?_ NB150_154.out _; (with_reducible repeat (first | refine blk_drewN ?_ _ | refine blk_drew ?_ | refine blk_alloc ?_ _)); refine blk_far ?_ NB150_154.out _; (with_reducible repeat (first | refine blk_drewN ?_ _ | refine blk_drew ?_ | refine blk_alloc ?_ _)); exact BK150.out) hb); have n2_ := Aside0.mk (blk_below (g := gb154) (o := .cells #[.int .i64 t151, .int .i64 t152] 38 (0, 0)) (by (with_reducible repeat (first | refine blk_drewN ?_ _ | refine blk_drew ?_ | refine blk_alloc ?_ _)); refine blk_put (cs := #[.int .i64 t151, .int .i64 0]) ?_ 1 _ rfl; (with_reducible repeat (first | refine blk_drewN ?_ _ | refine blk_drew ?_ | refine blk_alloc ?_ _)); refine blk_put (cs := #[.int .i64 0, .int .i64 0]) ?_ 0 _ rfl; (with_reducible repeat (first | refine blk_drewN ?_ _ | refine blk_drew ?_ | refine blk_alloc ?_ _)); exact BK154.out) hb); have n3_ := Aside0.mk (below_step (by repeat (first | (with_reducible first | exact HB.out | apply below_alloc | apply pw_below_drewN | apply below_drew1 | refine below_set ?_ GE146.out | refine below_set ?_ GE150.out | refine below_set ?_ GE154.out) | exact HB.out)) hb); clear BK146; clear BK150; clear BK154; clear HB; have BK146 := n0_; have BK150 := n1_; have BK154 := n2_; have HB := n3_; clear n0_ n1_ n2_ n3_; (try clear hb); (try clear hb2); (try clear hk); (try clear hi)))
        go_ret
        exact ⟨by first | rfl | (simp [errW_none, errW_some] <;> rfl) | (simp [*, errW_none, errW_some] <;> rfl), by repeat (first | (with_reducible first | exact HB.out | apply below_alloc | apply pw_below_drewN | apply below_drew1 | refine below_set ?_ GE146.out | refine below_set ?_ GE150.out | refine below_set ?_ GE154.out) | exact HB.out)⟩

end Go.Proofs.YtddbahlofgkoaaaDoor.PA
namespace Go.Proofs.YtddbahlofgkoaaaDoor.Pure
open Go.RowKit Go.Proofs.YtddbahlofgkoaaaDoor.PA Go.Proofs.YtddbahlofgkoaaaDoorW.PrintWords Go.Proofs.YtddbahlofgkoaaaDoorW.PrintLast Go.Proofs.YtddbahlofgkoaaaDoorW.PrintMore
open Go.Proofs.YtddbahlofgkoaaaDoor
set_option linter.unusedVariables false
set_option linter.unusedSimpArgs false

theorem l6In_tells (a b c : Int) : spec_l6In.f a b c = some (decide (b ≤ a) && decide (a ≤ c)) := by
  unfold spec_l6In.f
  by_cases h : a ≥ b
  · rw [if_pos h, decide_eq_true (show b ≤ a from h), Bool.true_and]
  · rw [if_neg h, decide_eq_false (show ¬ b ≤ a from h), Bool.false_and]

theorem pick_tells (k : Nat) {b : List Int} {p n : Int} (hb : ∀ x ∈ b, 0 ≤ x ∧ x < 256) (hl : b.length ≤ 2000) (hp0 : 0 ≤ p) (hp : p ≤ 1000000) (hn : 1 ≤ n) (hn' : n ≤ 1000000) :
    ∃ v, spec_l6Rd_pick.f (k + 1) b p n = some (v, p + 1) ∧ 0 ≤ v ∧ v < n := by
  have rdb : ∀ i, 0 ≤ rd b i ∧ rd b i < 256 := by
    intro i
    unfold rd
    rw [List.getD_eq_getElem?_getD]
    rcases h : b[i.toNat]? with _ | x
    · simp
    · simp only [Option.getD_some]; exact hb x (List.mem_of_getElem? h)
  unfold spec_l6Rd_pick.f
  rw [if_neg (by omega), Geo.w64 (by omega) (by omega)]
  simp only [spec_l6Rd_pick.j0]
  rw [show p + 1 - 1 = p from by omega, Geo.w64 (n := p) (by omega) (by omega)]
  by_cases hz : (b.length : Int) = 0
  · rw [if_pos (by rw [hz]; rfl)]
    exact ⟨0, rfl, by omega, by omega⟩
  rw [if_neg (by rw [beq_iff_eq]; exact hz)]
  by_cases hlt : p < (b.length : Int)
  · rw [if_pos hlt, if_pos hp0, if_neg (by omega)]
    have h := rdb p
    rw [Geo.w64 (by omega) (by omega), Int.tmod_eq_emod_of_nonneg h.1]
    exact ⟨_, rfl, Int.emod_nonneg _ (by omega), Int.emod_lt_of_pos _ (by omega)⟩
  rw [if_neg hlt, if_neg hz]
  have hL : 0 < (b.length : Int) := by omega
  have e7 : wrap64 (p * 7) = p * 7 := Geo.w64 (by omega) (by omega)
  have e73 : wrap64 (p * 7 + 3) = p * 7 + 3 := Geo.w64 (by omega) (by omega)
  rw [e7, e73, Int.tmod_eq_emod_of_nonneg hp0, Int.tmod_eq_emod_of_nonneg (show 0 ≤ p * 7 + 3 by omega)]
  rw [if_pos (Int.emod_nonneg _ (by omega)), if_pos (Int.emod_lt_of_pos _ hL), if_pos (Int.emod_nonneg _ (by omega)), if_pos (Int.emod_lt_of_pos _ hL), if_neg (by omega)]
  have h1 := rdb (p % (b.length : Int))
  have h2 := rdb ((p * 7 + 3) % (b.length : Int))
  generalize rd b (p % (b.length : Int)) = u at h1 ⊢
  generalize rd b ((p * 7 + 3) % (b.length : Int)) = v at h2 ⊢
  have h3 : 0 ≤ Int.tdiv p (b.length : Int) ∧ Int.tdiv p (b.length : Int) ≤ p := ⟨Int.tdiv_nonneg hp0 (by omega), Int.tdiv_le_self _ hp0⟩
  generalize Int.tdiv p (b.length : Int) = q at h3 ⊢
  rw [Geo.w64 (n := u) (by omega) (by omega), Geo.w64 (n := v) (by omega) (by omega), Geo.w64 (n := q) (by omega) (by omega), Geo.w64 (n := u * 131) (by omega) (by omega), Geo.w64 (n := v * 1117) (by omega) (by omega),
    Geo.w64 (n := u * 131 + v * 1117) (by omega) (by omega), Geo.w64 (n := p * 29) (by omega) (by omega), Geo.w64 (n := u * 131 + v * 1117 + p * 29) (by omega) (by omega), Geo.w64 (n := q * 53) (by omega) (by omega),
    Geo.w64 (n := u * 131 + v * 1117 + p * 29 + q * 53) (by omega) (by omega)]
  have hx : 0 ≤ u * 131 + v * 1117 + p * 29 + q * 53 ∧ u * 131 + v * 1117 + p * 29 + q * 53 < 1099511627776 := by omega
  generalize u * 131 + v * 1117 + p * 29 + q * 53 = x at hx ⊢
  have hy : 0 ≤ Int.tdiv x 64 ∧ Int.tdiv x 64 < 1099511627776 := by rw [Int.tdiv_eq_ediv_of_nonneg hx.1]; omega
  rw [Geo.w64 (n := Int.tdiv x 64) (by omega) (by omega)]
  have hz := Geo.xor_nonneg hx.1 hx.2 hy.1 hy.2
  generalize Go.bits .xor .i64 x (Int.tdiv x 64) = z at hz ⊢
  rw [Int.tmod_eq_emod_of_nonneg hz]
  exact ⟨_, rfl, Int.emod_nonneg _ (by omega), Int.emod_lt_of_pos _ (by omega)⟩
theorem pick_at (k : Nat) {b : List Int} {p m n : Int} (h : Geo.Rdr b p m) (hm : m ≤ 1000000) (hn : 1 ≤ n) (hn' : n ≤ 1000000) :
    ∃ v, spec_l6Rd_pick.f (k + 1) b p n = some (v, p + 1) ∧ 0 ≤ v ∧ v < n := pick_tells k h.1 h.2.1 h.2.2.1 (by have := h.2.2.2; omega) hn hn'

theorem open_tells {l : List Int} (hl : ∀ x ∈ l, (Lit.int .u8 x).wf = true) : ∃ b, spec_l6Open.f l = some (b, 0) ∧ Geo.Rdr b 0 0 := by
  have hb : ∀ x ∈ l, 0 ≤ x ∧ x < 256 := fun x hx => by
    have h := hl x hx
    simp [Lit.wf, IntKind.min, IntKind.max, IntKind.signed, IntKind.bits] at h
    omega
  unfold spec_l6Open.f
  by_cases h : (l.length : Int) > 2000
  · rw [if_pos h, if_pos (by omega)]
    exact ⟨_, rfl, fun x hx => hb x (List.mem_of_mem_take hx), by rw [List.length_take]; omega, by omega, by omega⟩
  · rw [if_neg h]
    exact ⟨_, rfl, hb, by omega, by omega, by omega⟩

theorem sGcd_tells : ∀ (k : Nat) (a b : Nat), b < k → spec_l1Gcd.l0 k (a : Int) (b : Int) = some ((Nat.gcd a b : Nat) : Int) := by
  intro k
  induction k with
  | zero => intro a b h; omega
  | succ k ih =>
    intro a b h
    simp only [spec_l1Gcd.l0]
    by_cases hb : b = 0
    · subst hb; simp
    · rw [if_pos (by omega), if_neg (by omega), ← Int.ofNat_tmod, ih b (a % b) (by have := Nat.mod_lt a (show 0 < b by omega); omega)]
      rw [Nat.gcd_comm b, ← Nat.gcd_rec, Nat.gcd_comm]

theorem iGcd_tells : ∀ (k : Nat) (a b : Nat), b < k → impl_commonDivisor.l0 k (a : Int) (b : Int) = some ((Nat.gcd a b : Nat) : Int) := by
  intro k
  induction k with
  | zero => intro a b h; omega
  | succ k ih =>
    intro a b h
    simp only [impl_commonDivisor.l0]
    by_cases hb : b = 0
    · subst hb; simp
    · rw [if_neg (by omega), ← Int.ofNat_tmod, ih b (a % b) (by have := Nat.mod_lt a (show 0 < b by omega); omega)]
      rw [Nat.gcd_comm b, ← Nat.gcd_rec, Nat.gcd_comm]

theorem sOf_tells (k : Nat) {n d : Int} (h1 : 0 ≤ n) (h2 : n ≤ 1000000) (h3 : 1 ≤ d) (h4 : d ≤ 1000000) (hk : d < k) : spec_l1Of.f k n d = some (Geo.fracN n d, Geo.fracD n d) := by
  obtain ⟨n, rfl⟩ := Int.eq_ofNat_of_zero_le h1
  obtain ⟨d, rfl⟩ := Int.eq_ofNat_of_zero_le (show 0 ≤ d by omega)
  unfold spec_l1Of.f spec_l1Gcd.f
  have hg := Nat.gcd_pos_of_pos_right n (show 0 < d by omega)
  simp only [sGcd_tells k n d (by omega), Option.bind_some]
  rw [if_neg (by omega)]
  have e1 : Int.tdiv (n : Int) ((Nat.gcd n d : Nat) : Int) = ((n / Nat.gcd n d : Nat) : Int) := by rw [Int.ofNat_tdiv]
  have e2 : Int.tdiv (d : Int) ((Nat.gcd n d : Nat) : Int) = ((d / Nat.gcd n d : Nat) : Int) := by rw [Int.ofNat_tdiv]
  have b1 := Nat.div_le_self n (Nat.gcd n d)
  have b2 := Nat.div_le_self d (Nat.gcd n d)
  rw [e1, e2, Geo.w64n (Nat.le_trans b1 (by omega)), Geo.w64n (Nat.le_trans b2 (by omega))]
  rfl

theorem sFracOf_tells (k : Nat) (n d : Int) (hk : 100000 ≤ k) : spec_FracOf.f k n d = some (Geo.fracOf n d) := by
  unfold spec_FracOf.f Geo.fracOf
  simp only [l6In_tells, Option.bind_some]
  by_cases h : 0 ≤ n ∧ n ≤ 99999
  · have e : (decide (0 ≤ n) && decide (n ≤ 99999)) = true := by simp [h]
    rw [if_pos e]
    by_cases h' : 1 ≤ d ∧ d ≤ 99999
    · have e' : (decide (1 ≤ d) && decide (d ≤ 99999)) = true := by simp [h']
      rw [if_pos e', sOf_tells k h.1 (by omega) h'.1 (by omega) (by omega), if_pos ⟨h.1, h.2, h'.1, h'.2⟩]; rfl
    · have e' : ¬ (decide (1 ≤ d) && decide (d ≤ 99999)) = true := by simpa using h'
      rw [if_neg e', if_neg (fun z => h' ⟨z.2.2.1, z.2.2.2⟩)]
  · have e : ¬ (decide (0 ≤ n) && decide (n ≤ 99999)) = true := by simpa using h
    rw [if_neg e, if_neg (fun z => h ⟨z.1, z.2.1⟩)]

theorem iFracOf_tells (k : Nat) (n d : Int) (hk : 100000 ≤ k) : impl_FracOf.f k n d = some (Geo.fracOf n d) := by
  unfold impl_FracOf.f Geo.fracOf
  by_cases h1 : n < 0
  · rw [if_pos h1, if_neg (fun z => by omega)]
  by_cases h2 : n > 99999
  · rw [if_neg h1, if_pos h2, if_neg (fun z => by omega)]
  by_cases h3 : d < 1
  · rw [if_neg h1, if_neg h2, if_pos h3, if_neg (fun z => by omega)]
  by_cases h4 : d > 99999
  · rw [if_neg h1, if_neg h2, if_neg h3, if_pos h4, if_neg (fun z => by omega)]
  rw [if_neg h1, if_neg h2, if_neg h3, if_neg h4, if_pos ⟨by omega, by omega, by omega, by omega⟩]
  obtain ⟨n, rfl⟩ := Int.eq_ofNat_of_zero_le (show 0 ≤ n by omega)
  obtain ⟨d, rfl⟩ := Int.eq_ofNat_of_zero_le (show 0 ≤ d by omega)
  unfold impl_commonDivisor.f
  have hg := Nat.gcd_pos_of_pos_right n (show 0 < d by omega)
  simp only [iGcd_tells k n d (by omega), Option.bind_some]
  rw [if_neg (by omega)]
  have e1 : Int.tdiv (n : Int) ((Nat.gcd n d : Nat) : Int) = ((n / Nat.gcd n d : Nat) : Int) := by rw [Int.ofNat_tdiv]
  have e2 : Int.tdiv (d : Int) ((Nat.gcd n d : Nat) : Int) = ((d / Nat.gcd n d : Nat) : Int) := by rw [Int.ofNat_tdiv]
  have b1 := Nat.div_le_self n (Nat.gcd n d)
  have b2 := Nat.div_le_self d (Nat.gcd n d)
  rw [e1, e2, Geo.w64n (Nat.le_trans b1 (by omega)), Geo.w64n (Nat.le_trans b2 (by omega))]
  rfl

theorem drawFracOf_tells (k : Nat) {l : List Int} (hl : ∀ x ∈ l, (Lit.int .u8 x).wf = true) : ∃ n d, spec_DrawFracOf.f (k + 1) l = some (n, d) ∧ -200 ≤ n ∧ n ≤ 99 ∧ 0 ≤ d ∧ d ≤ 100038 := by
  obtain ⟨b, e0, h0⟩ := open_tells hl
  obtain ⟨v1, e1, a1, b1⟩ := pick_at k h0 (by omega) (show (1 : Int) ≤ 100 by omega) (by omega)
  obtain ⟨v2, e2, a2, b2⟩ := pick_at k (h0.up (q := 0 + 1) (n := 100) (by omega) (by omega)) (by omega) (show (1 : Int) ≤ 12 by omega) (by omega)
  obtain ⟨v3, e3, a3, b3⟩ := pick_at k (h0.up (q := 0 + 1 + 1) (n := 100) (by omega) (by omega)) (by omega) (show (1 : Int) ≤ 40 by omega) (by omega)
  obtain ⟨v4, e4, a4, b4⟩ := pick_at k (h0.up (q := 0 + 1 + 1 + 1) (n := 100) (by omega) (by omega)) (by omega) (show (1 : Int) ≤ 16 by omega) (by omega)
  unfold spec_DrawFracOf.f
  simp only [e0, e1, e2, e3, e4, Option.bind_some]
  have d1 : Int.tdiv v2 11 = 0 ∨ Int.tdiv v2 11 = 1 := by rw [Int.tdiv_eq_ediv_of_nonneg a2]; omega
  have d2 : Int.tdiv v4 15 = 0 ∨ Int.tdiv v4 15 = 1 := by rw [Int.tdiv_eq_ediv_of_nonneg a4]; omega
  refine ⟨_, _, rfl, ?_⟩
  generalize Int.tdiv v2 11 = t1 at d1
  generalize Int.tdiv v4 15 = t2 at d2
  rw [Geo.w64 (n := t1) (by omega) (by omega), Geo.w64 (n := t2) (by omega) (by omega), Geo.w64 (n := t1 * 200) (by omega) (by omega), Geo.w64 (n := t2 * 99999) (by omega) (by omega), Geo.w64 (n := v1 - t1 * 200) (by omega) (by omega), Geo.w64 (n := v3 + t2 * 99999) (by omega) (by omega)]
  omega

def fracOk (n d : Int) : Bool := decide (0 ≤ n ∧ n ≤ 99999 ∧ 1 ≤ d ∧ d ≤ 99999) && (Nat.gcd n.toNat d.toNat == 1)
theorem fracOk_iff (n d : Int) : fracOk n d = true ↔ (0 ≤ n ∧ n ≤ 99999 ∧ 1 ≤ d ∧ d ≤ 99999) ∧ Nat.gcd n.toNat d.toNat = 1 := by
  unfold fracOk; rw [Bool.and_eq_true, decide_eq_true_eq, beq_iff_eq]
theorem iFracOk_tells (k : Nat) (n d : Int) (hk : 100000 ≤ k) : impl_FracOk.f k n d = some (fracOk n d) := by
  unfold impl_FracOk.f fracOk
  by_cases h : n < 0 ∨ 99999 < n ∨ d < 1 ∨ 99999 < d
  · rw [if_pos h, decide_eq_false (fun z => by omega)]; rfl
  · rw [if_neg h, decide_eq_true (show 0 ≤ n ∧ n ≤ 99999 ∧ 1 ≤ d ∧ d ≤ 99999 by omega)]
    obtain ⟨n, rfl⟩ := Int.eq_ofNat_of_zero_le (show 0 ≤ n by omega)
    obtain ⟨d, rfl⟩ := Int.eq_ofNat_of_zero_le (show 0 ≤ d by omega)
    unfold impl_commonDivisor.f
    rw [iGcd_tells k n d (by omega), Option.bind_some, Int.toNat_natCast, Int.toNat_natCast, Bool.true_and]
    by_cases hg : Nat.gcd n d = 1
    · rw [hg]; rfl
    · rw [beq_eq_false_iff_ne.2 hg, decide_eq_false (by omega)]

end Go.Proofs.YtddbahlofgkoaaaDoor.Pure
namespace Go.Proofs.YtddbahlofgkoaaaDoor.Pure
open Go.RowKit Go.Proofs.YtddbahlofgkoaaaDoor.PA Go.Proofs.YtddbahlofgkoaaaDoorW.PrintWords Go.Proofs.YtddbahlofgkoaaaDoorW.PrintLast Go.Proofs.YtddbahlofgkoaaaDoorW.PrintMore
open Go.Proofs.YtddbahlofgkoaaaDoor
set_option linter.unusedVariables false
set_option linter.unusedSimpArgs false
theorem gcd_mk {n d : Int} (h1 : 0 ≤ n) (h2 : n ≤ 99999) (h3 : 1 ≤ d) (h4 : d ≤ 99999) : fracOk (Geo.fracN n d) (Geo.fracD n d) = true ∧ Geo.fracN n d * d = n * Geo.fracD n d ∧ 0 ≤ Geo.fracN n d ∧ Geo.fracN n d ≤ n ∧ 1 ≤ Geo.fracD n d ∧ Geo.fracD n d ≤ d := by
  obtain ⟨n, rfl⟩ := Int.eq_ofNat_of_zero_le h1
  obtain ⟨d, rfl⟩ := Int.eq_ofNat_of_zero_le (show 0 ≤ d by omega)
  rw [fracOk_iff]
  simp only [Geo.fracN, Geo.fracD, Int.toNat_natCast]
  have hg := Nat.gcd_pos_of_pos_right n (show 0 < d by omega)
  have b1 := Nat.div_le_self n (Nat.gcd n d)
  have b2 := Nat.div_le_self d (Nat.gcd n d)
  have b3 : 0 < d / Nat.gcd n d := Nat.div_pos (Nat.le_of_dvd (by omega) (Nat.gcd_dvd_right n d)) hg
  have hc : Nat.gcd (n / Nat.gcd n d) (d / Nat.gcd n d) = 1 := Nat.coprime_div_gcd_div_gcd hg
  obtain ⟨n', hn⟩ := Nat.gcd_dvd_left n d
  obtain ⟨d', hd⟩ := Nat.gcd_dvd_right n d
  have e1 : n / Nat.gcd n d = n' := Nat.div_eq_of_eq_mul_right hg hn
  have e2 : d / Nat.gcd n d = d' := Nat.div_eq_of_eq_mul_right hg hd
  have hx : (n / Nat.gcd n d) * d = n * (d / Nat.gcd n d) := by
    rw [e1, e2]
    generalize Nat.gcd n d = g at hn hd
    rw [hn, hd]; rw [Nat.mul_left_comm, ← Nat.mul_assoc]
  refine ⟨?_, by exact_mod_cast hx, by omega, by omega, by omega, by omega⟩
  exact ⟨⟨by omega, by omega, by omega, by omega⟩, hc⟩
theorem frac_up {n d : Int} {q : Nat} (hq : 0 < q) (h1 : 0 ≤ n) (h3 : 1 ≤ d) : Geo.fracN (n * q) (d * q) = Geo.fracN n d ∧ Geo.fracD (n * q) (d * q) = Geo.fracD n d := by
  obtain ⟨n, rfl⟩ := Int.eq_ofNat_of_zero_le h1
  obtain ⟨d, rfl⟩ := Int.eq_ofNat_of_zero_le (show 0 ≤ d by omega)
  simp only [Geo.fracN, Geo.fracD, ← Int.natCast_mul, Int.toNat_natCast, Nat.gcd_mul_right]
  rw [Nat.mul_div_mul_right _ _ hq, Nat.mul_div_mul_right _ _ hq]
  exact ⟨rfl, rfl⟩
theorem FnFracOf (l0 : List Int) (hq : l0.length ≤ maxLen ∧ ∀ x ∈ l0, (Lit.int .u8 x).wf = true) (l1 : List Int) (hr : l1.length ≤ maxLen ∧ ∀ x ∈ l1, (Lit.int .u8 x).wf = true) : ∃ k, laws_FnFracOf.f k l0 l1 = some true := by
  refine ⟨100002, ?_⟩
  unfold laws_FnFracOf.f
  by_cases hl : (l0.length : Int) > 1048576
  · rw [if_pos hl, laws_FnFracOf.j0, if_pos rfl]
  rw [if_neg hl]
  by_cases hm : (l1.length : Int) > 1048576
  · rw [decide_eq_true hm, laws_FnFracOf.j0, if_pos rfl]
  rw [decide_eq_false hm, laws_FnFracOf.j0, if_neg (by decide)]
  obtain ⟨n, d, e, a1, a2, a3, a4⟩ := drawFracOf_tells 100000 hq.2
  simp only [e, Option.bind_some, sFracOf_tells _ _ _ (show 100000 ≤ 100001 by omega), iFracOf_tells _ _ _ (show 100000 ≤ 100001 by omega)]
  obtain ⟨q, hqq, hq1, hq9⟩ : ∃ q : Nat, 1 + (l1.length : Int) % 9 = (q : Int) ∧ 1 ≤ q ∧ q ≤ 9 := ⟨1 + l1.length % 9, by omega, by omega, by omega⟩
  by_cases hok : 0 ≤ n ∧ n ≤ 99999 ∧ 1 ≤ d ∧ d ≤ 99999
  · obtain ⟨b1, b2, b3, b4⟩ := hok
    obtain ⟨g1, g2, g3, g4, g5, g6⟩ := gcd_mk b1 b2 b3 b4
    rw [Geo.fracOf_mk b1 b2 b3 b4]
    simp only [bne_self_eq_false, Bool.false_eq_true, if_false, beq_self_eq_true, Bool.not_true, Bool.or_self]
    rw [laws_FnFracOf.j1, if_neg (by decide), hqq]
    have m1 : 0 ≤ n * (q : Int) ∧ n * (q : Int) ≤ 99 * 9 := ⟨Int.mul_nonneg b1 (by omega), Int.mul_le_mul a2 (by omega) (by omega) (by omega)⟩
    have m2 : 1 ≤ d * (q : Int) ∧ d * (q : Int) ≤ 99999 * 9 := ⟨by have := Int.mul_le_mul b3 (show (1 : Int) ≤ q by omega) (by omega) (by omega); omega, Int.mul_le_mul b4 (by omega) (by omega) (by omega)⟩
    have m3 : 0 ≤ Geo.fracN n d * d ∧ Geo.fracN n d * d ≤ 99 * 99999 := ⟨Int.mul_nonneg g3 (by omega), Int.mul_le_mul (by omega) b4 (by omega) (by omega)⟩
    rw [Geo.w64 (n := n * q) (by omega) (by omega), Geo.w64 (n := d * q) (by omega) (by omega)]
    simp only [iFracOf_tells _ _ _ (show 100000 ≤ 100000 by omega), iFracOk_tells _ _ _ (show 100000 ≤ 100000 by omega), Option.bind_some, g1, if_true]
    rw [← g2, if_pos rfl]
    by_cases hd : d * (q : Int) ≤ 99999
    · have hn : n * (q : Int) ≤ 99999 := by omega
      obtain ⟨f1, f2⟩ := frac_up (q := q) (by omega) b1 b3
      rw [Geo.fracOf_mk m1.1 hn m2.1 hd, f1, f2]
      simp [hn, hd]
    · have hx : Geo.fracOf (n * q) (d * q) = (0, 0, false) := by unfold Geo.fracOf; rw [if_neg (by omega)]
      have hn : n * (q : Int) ≤ 99999 := by omega
      rw [hx]
      have hz : ¬ ((0 : Int) = Geo.fracD n d) := by omega
      simp [hn, hd, hz]
  · have hx : Geo.fracOf n d = (0, 0, false) := by unfold Geo.fracOf; rw [if_neg hok]
    rw [hx]
    simp [laws_FnFracOf.j1]
end Go.Proofs.YtddbahlofgkoaaaDoor.Pure
namespace Go.Proofs.YtddbahlofgkoaaaDoorW.Open
open Go.ChangeShapes Go.WideShapes Go.ChangeAt Go.RowKit Go.Proofs.YtddbahlofgkoaaaDoorW.PrintWords

/-- Cells that read as data of type t are what kind d says of some y that meets Q. -/
def Tells {α : Type} (P : Program) (t : TypeId) (d : Kd α) (Q : α → Prop) : Prop :=
  P.cellsOf t = d.sz ∧ ∀ (H : Type) (enc : TypeId × Value → H) (w : World) (spare : Nat → Bool) (held : Bool) (fuel : Nat) (cs : List Value) (x : DataW H × List MemPlace),
    DataW.trod enc P w 0 spare held fuel t cs = some x → ∃ y, Q y ∧ d.K w y cs

theorem tells_int {P : Program} {t : TypeId} {k : IntKind} (ht : P.underlying t = some (.int k)) (hc : P.cellsOf t = 1) : Tells P t (Kd.int k) (fun n => (Lit.int k n).wf = true) := by
  refine ⟨hc, fun H enc w spare held fuel cs x h => ?_⟩
  obtain ⟨n, rfl, _, hw⟩ := DataW.trod_int ht h
  exact ⟨n, hw, rfl⟩

theorem tells_pair {α β γ : Type} {P : Program} {t : TypeId} {f0 f1 : Field} {d0 : Kd α} {d1 : Kd β} {Q0 : α → Prop} {Q1 : β → Prop} (ht : P.underlying t = some (.struct #[f0, f1]))
    (h0 : Tells P f0.type d0 Q0) (h1 : Tells P f1.type d1 Q1) (ho0 : f0.offset = 0) (ho1 : f1.offset = P.cellsOf f0.type) (hc : P.cellsOf t = P.cellsOf f0.type + P.cellsOf f1.type)
    (g : γ → α × β) (b : α × β → γ) (hgb : ∀ z, g (b z) = z) : Tells P t (Kd.iso (Kd.pair d0 d1) g) (fun y => Q0 (g y).1 ∧ Q1 (g y).2) := by
  refine ⟨?_, fun H enc w spare held fuel cs x h => ?_⟩
  · rw [hc, h0.1, h1.1]; rfl
  obtain ⟨xs, n, _, _, hl, hxl, hf⟩ := DataW.trod_struct ht h
  have g0 := hf 0 f0 rfl
  have g1 := hf 1 f1 rfl
  have hxl' : xs.length = 2 := hxl
  rw [List.getElem?_eq_getElem (by omega)] at g0 g1
  obtain ⟨y0, q0, k0⟩ := h0.2 H enc w spare held n _ _ g0
  obtain ⟨y1, q1, k1⟩ := h1.2 H enc w spare held n _ _ g1
  refine ⟨b (y0, y1), by show Q0 (g (b (y0, y1))).1 ∧ Q1 (g (b (y0, y1))).2; rw [hgb]; exact ⟨q0, q1⟩, ?_⟩
  show ∃ c0 c1, cs = c0 ++ c1 ∧ d0.K w (g (b (y0, y1))).1 c0 ∧ d1.K w (g (b (y0, y1))).2 c1
  rw [hgb]
  refine ⟨_, _, ?_, k0, k1⟩
  rw [ho0, ho1, List.drop_zero]
  have e : ((cs.drop (P.cellsOf f0.type)).take (P.cellsOf f1.type)) = cs.drop (P.cellsOf f0.type) := List.take_of_length_le (by rw [List.length_drop]; omega)
  rw [e, List.take_append_drop]

theorem pick_list {α : Type} {p : Nat → α → Prop} : ∀ n : Nat, (∀ i, i < n → ∃ y, p i y) → ∃ ys : List α, ys.length = n ∧ ∀ i y, ys[i]? = some y → p i y
  | 0, _ => ⟨[], rfl, fun i y h => by simp at h⟩
  | n + 1, h => by
    obtain ⟨ys, hl, hp⟩ := pick_list n (fun i hi => h i (by omega))
    obtain ⟨y, hy⟩ := h n (by omega)
    refine ⟨ys ++ [y], by simp [hl], fun i z hz => ?_⟩
    by_cases hi : i < ys.length
    · rw [List.getElem?_append_left hi] at hz; exact hp i z hz
    · have hlt := (List.getElem?_eq_some_iff.1 hz).1
      rw [List.length_append, List.length_singleton] at hlt
      obtain rfl : i = n := by omega
      have : y = z := by rw [← hl] at hz; simpa using hz
      rw [← this]; exact hy

theorem tells_slice {α : Type} {P : Program} {t e : TypeId} {d : Kd α} {Q : α → Prop} (ht : P.underlying t = some (.slice e)) (hc : P.cellsOf t = 1) (h0 : Tells P e d Q) : Tells P t (Kd.slice e d) (fun xs => xs.length ≤ maxLen ∧ ∀ x ∈ xs, Q x) := by
  refine ⟨hc, fun H enc w spare held fuel cs x h => ?_⟩
  rcases DataW.trod_slice ht h with ⟨rfl, _⟩ | ⟨a, len, cap, elems, rest, n, _, rfl, _, _, hl, hm, hel, hi, _, _⟩
  · exact ⟨[], ⟨Nat.zero_le _, fun x hx => by simp at hx⟩, none, 0, rfl, Nat.le_refl _, rfl, by simp, fun hp => absurd hp (by simp)⟩
  · have hex : ∀ i, i < len → ∃ y, Q y ∧ ∃ c, c.length = d.sz ∧ d.K w y c ∧ ∀ j u, c[j]? = some u → w.cell? (a.add (i * d.sz + j)) = some u := by
      intro i hlt
      have h1 := hi i hlt
      rw [List.getElem?_eq_getElem (by omega)] at h1
      obtain ⟨c, hcs, htr⟩ := Option.bind_eq_some_iff.1 h1
      obtain ⟨y, hq, hk⟩ := h0.2 H enc w spare held n c _ htr
      obtain ⟨_, hcl, hat⟩ := World.cells?_some hcs
      refine ⟨y, hq, c, d.K_len hk, hk, fun j u hu => ?_⟩
      have hj : j < P.cellsOf e := by rw [← hcl]; exact (List.getElem?_eq_some_iff.1 hu).1
      have := hat j hj
      rw [hu, h0.1] at this
      rw [← Go.Deep.add_add]; exact this
    obtain ⟨ys, hyl, hy⟩ := pick_list len hex
    refine ⟨ys, ⟨by omega, fun y hmem => ?_⟩, some a, cap, by rw [hyl], by omega, rfl, by unfold maxLen at hm; omega, fun _ => ⟨a, rfl, fun j p hp => ?_⟩⟩
    · obtain ⟨i, hi⟩ := List.getElem?_of_mem hmem
      exact (hy i y hi).1
    · exact (hy j p hp).2

/-- A parameter of a struct type: its cells. -/
theorem Tells.open_agg {α : Type} {P : Program} {t : TypeId} {d : Kd α} {Q : α → Prop} {H : Type} {enc : TypeId × Value → H} {w : World} {spare : Nat → Bool} {held : Bool} {fs : Array Field} {r : Reach} {b0 : Nat} {v : Value} {x : DataW H} {ps : List MemPlace}
    (ht : Tells P t d Q) (hs : P.underlying t = some (.struct fs)) (hv : Value.okWide P w r b0 t v) (h : DataW.Trod enc P w 0 spare held t v x ps) : ∃ y cs, v = .agg cs.toArray ∧ Q y ∧ d.K w y cs := by
  obtain ⟨cs, rfl, _⟩ := okWide_struct hs hv
  obtain ⟨fuel, hf⟩ := h
  obtain ⟨y, hq, hk⟩ := ht.2 H enc w spare held fuel _ _ hf
  exact ⟨y, cs.toList, by simp, hq, by simpa [Value.cells] using hk⟩

/-- A parameter of a slice type: its row. -/
theorem Tells.open_slice {α : Type} {P : Program} {t e : TypeId} {d : Kd α} {Q : List α → Prop} {H : Type} {enc : TypeId × Value → H} {w : World} {spare : Nat → Bool} {held : Bool} {r : Reach} {b0 : Nat} {v : Value} {x : DataW H} {ps : List MemPlace}
    (ht : Tells P t (Kd.slice e d) Q) (hs : P.underlying t = some (.slice e)) (hv : Value.okWide P w r b0 t v) (h : DataW.Trod enc P w 0 spare held t v x ps) : ∃ (xs : List α) (A : Option Addr) (c : Nat), v = .slice A xs.length c ∧ Q xs ∧ xs.length ≤ c ∧ d.C w A xs.length xs := by
  obtain ⟨a0, len0, cap0, rfl⟩ := okWide_slice hs hv
  obtain ⟨fuel, hf⟩ := h
  obtain ⟨y, hq, A, c, he, hl, hk⟩ := ht.2 H enc w spare held fuel _ _ hf
  simp only [Value.cells, List.cons.injEq, and_true] at he
  exact ⟨y, A, c, he, hq, hl, hk⟩
end Go.Proofs.YtddbahlofgkoaaaDoorW.Open
namespace Go.Proofs.YtddbahlofgkoaaaDoor
open Go Go.RowKit
theorem returns_and_shaped {H : Type} {enc : TypeId × Value → H} {a : Assume} {C : Checked} {os : Os} {f : FuncId} {fn : Func} {s : ChangeSpec} {conds : List PathCond} {apart fresh handsOn again : Bool} {X : World → Array Value → Prop}
    (hX : ∀ (w w' : World) (args : Array Value), w.heap = w'.heap → X w args → X w' args)
    (own : ownKnob C.prog.godebug = none) (started : os.Started) (noInit : C.prog.inits.idxOf? f = none) (hfn : C.prog.funcs[f]? = some fn)
    (witness : ∃ (w : World) (tape : Tape) (i : Input), w.os = os ∧ (w.forCall tape i).Shaped C.prog ∧ i.vars = [] ∧ Input.okWide C.prog (w.forCall tape i) .any w.heap.size f i ∧
      ((s.pre enc C.prog fn conds apart (w.forCall tape i).memory i.args ∧ X (w.forCall tape i).memory i.args) ∧ sizedMet enc C.prog fn (OpenSpec.ofChange s) apart (w.forCall tape i).memory i.args) ∧ a.holds C.prog (lone (Frame.enter C.prog f i.args .normal) [] (w.forCall tape i)))
    (contract : ∀ (W : World) (base : Nat) (args : Array Value) (ds gs : List (DataW H)) (before : List MemPlace),
      (∀ (j : Nat) t v, fn.params[j]? = some t → args[j]? = some v → Value.okWide C.prog W .any base t v) →
      DataW.Whole enc C.prog fn.params.toList s.vars apart W args.toList ds gs before →
      conds.all (PathCond.test C.prog ⟨fn.params.toList, ds, s.plain.varTypes C.prog, gs⟩) = true →
      (DataW.weightsEach C.prog (fn.params.toList ++ s.plain.varTypes C.prog) (ds ++ gs)).all (· ≤ reachBytes) = true → X W args → W.ShapedOpen C.prog →
      a.holds C.prog (lone (Frame.enter C.prog f args .normal) [] W) →
      Calls C.prog f args W fun e W' => ∃ v, e = .returned v ∧ s.post enc C.prog fn apart fresh handsOn again W args v W') :
    ReturnsInHanded a C os f .any (fun w args => (s.pre enc C.prog fn conds apart w args ∧ X w args) ∧ sizedMet enc C.prog fn (OpenSpec.ofChange s) apart w args) (s.post enc C.prog fn apart fresh handsOn again) := by
  refine returnsInHanded_of_calls own started noInit witness ?_
  intro w tape i _ hsh _ hok hpre hholds
  obtain ⟨_, _, _, fn', hfn', _, _, _, _, hval⟩ := hok
  have e : fn' = fn := Option.some.inj (hfn'.symm.trans hfn)
  subst e
  obtain ⟨⟨⟨ds, gs, before, hw, hc⟩, hx⟩, hz⟩ := hpre
  have hw' := DataW.Whole.of_heap (w' := w.forCall tape i) (by rfl) hw
  refine (contract (w.forCall tape i) w.heap.size i.args ds gs before hval hw' hc (hz.weights hw) (hX _ _ _ (by rfl) hx) hsh hholds).mono fun e W' ⟨v, he, hp⟩ => ?_
  subst he
  exact ChangeSpec.post_blind hp
theorem var?_below {P : Program} {w w' : World} {n : String} {g : Nat} {cs : Array Value} (hg : P.globalNamed n = some g) (h : w.var? P n = some cs) (hb : Below w.heap.size w w') : w'.var? P n = some cs := by
  simp only [World.var?, hg, Option.bind_some] at h ⊢
  have hlt : g < w.heap.size := by
    rcases Nat.lt_or_ge g w.heap.size with hlt | hge
    · exact hlt
    · rw [Array.getElem?_eq_none hge] at h; cases h
  rw [hb.block g hlt]; exact h
end Go.Proofs.YtddbahlofgkoaaaDoor
