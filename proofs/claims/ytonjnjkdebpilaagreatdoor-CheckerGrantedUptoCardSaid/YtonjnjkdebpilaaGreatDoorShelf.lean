/-
  Contracts of the library's functions at this program (cut out of the kit's plain shelf text: what is used of it).
-/
import Derived.Shelf.Strings.Builder1
import Derived.Shelf.Strings.Builder2
import Derived.Shelf.Strings.OnBuilder
import Derived.Shelf.Strings.Trim
import Derived.Shelf.Small.Utf8
import Derived.Shelf.Small.Bits
import Derived.Shelf.Small.Strs
import Derived.Shelf.Small.Wraps
import Derived.Shelf.Strconv.Atoi
import Derived.Shelf.Strconv.Itoa0
import Derived.Shelf.Strconv.Itoa1
import Derived.Shelf.LaysM
import Derived.Shelf.Strconv.Itoa2
import Derived.Shelf.Strconv.Itoa3
import Derived.Shelf.Strconv.AtoiErrFast
import Derived.Shelf.Strconv.ParseIntEmpty
import Derived.Shelf.Strconv.AtoiFail
import Derived.Shelf.Strconv.Clone
import Derived.Shelf.Strconv.SyntaxError
import Derived.Shelf.LaysC
import Derived.Shelf.Strconv.ToError
import Derived.Shelf.Strconv.Lower
import Derived.Shelf.Strconv.ParseUint10
import Derived.Shelf.Strconv.ParseUint10Empty
import Derived.Shelf.Strconv.ParseUint10Any
import Derived.Shelf.Strconv.ParseInt10
import Derived.Shelf.Strconv.AtoiLong
import Derived.Shelf.Strconv.AtoiInnerAll
import Derived.Shelf.Strconv.RangeError
import Derived.Shelf.Strconv.ToErrorRange
import Derived.Shelf.Strconv.AtoiAll
import Derived.Shelf.Strconv.ErrVarAll
import Derived.Shelf.Strings.Search1
import Derived.Shelf.Strings.Search2
import Derived.Shelf.Strings.Search3
import Derived.Shelf.Strings.Cut
import Derived.Shelf.Strings.Count
import Derived.Shelf.Strings.Shaped
import Derived.Shelf.Sort.Plain
import Derived.Shelf.Strings.Prefix
import Derived.Shelf.Strings.Split
import Derived.Shelf.Strings.Fields
import Derived.Shelf.Strings.SplitShaped
import Derived.Shelf.Unicode.Latin
import Derived.Shelf.Strings.Runes
import Derived.Shelf.Strings.AsciiSet
import Derived.Shelf.Unicode.DecodeSlow
import Derived.Shelf.Unicode.DecodeAny
import Derived.Shelf.Unicode.Is16White
import Derived.Shelf.Unicode.IsSpaceAny
import Derived.Shelf.Unicode.Is16Any
import Derived.Shelf.Unicode.Is32Any
import Derived.Shelf.Unicode.ExclAny
import Derived.Shelf.Slices.Turned
import Derived.Ground.Names2Prog
import Derived.Shelf.Slices.Clone
import Derived.Ground.SlgnProg
import Derived.Shelf.SlicesE.Clone
import Derived.Test.YtonjnjkdebpilaaGreatDoorProg
namespace Go.Proofs
open Go.Shelf
def Tryz.lays156_ren : Go.Shelf.Ren := ⟨fun | 156 => 247 | 165 => 277 | 166 => 278 | 169 => 279 | 240 => 300 | 241 => 301 | 276 => 318 | 277 => 319 | n => n, fun | 31 => 37 | 9 => 9 | 3 => 3 | 4 => 4 | 0 => 0 | 20 => 20 | 72 => 322 | 76 => 119 | 70 => 320 | 37 => 122 | 75 => 118 | 127 => 291 | 164 => 358 | 5 => 5 | 80 => 324 | n => n, fun | n => n⟩
theorem Tryz.lays156 : Go.Proofs.Lays.n156 Tryz.prog Tryz.lays156_ren := {
  mixed := by kernel_rfl
  f156 := Tryz.func247.trans (congrArg some (by kernel_rfl))
  f165 := Tryz.func277.trans (congrArg some (by kernel_rfl))
  f166 := Tryz.func278.trans (congrArg some (by kernel_rfl))
  f169 := Tryz.func279.trans (congrArg some (by kernel_rfl))
  f240 := Tryz.func300.trans (congrArg some (by kernel_rfl))
  f241 := Tryz.func301.trans (congrArg some (by kernel_rfl))
  f276 := Tryz.func318.trans (congrArg some (by kernel_rfl))
  f277 := Tryz.func319.trans (congrArg some (by kernel_rfl))
  t0 := Tryz.underlying0
  a0 := Tryz.isAgg0
  z0 := Tryz.sizeOf0
  v0 := Tryz.zeroValue0
  t3 := Tryz.underlying3
  a3 := Tryz.isAgg3
  z3 := Tryz.sizeOf3
  v3 := Tryz.zeroValue3
  t4 := Tryz.underlying4
  a4 := Tryz.isAgg4
  z4 := Tryz.sizeOf4
  v4 := Tryz.zeroValue4
  t9 := Tryz.underlying9
  a9 := Tryz.isAgg9
  z9 := Tryz.sizeOf9
  v9 := Tryz.zeroValue9
  t20 := Tryz.underlying20
  a20 := Tryz.isAgg20
  z20 := Tryz.sizeOf20
  v20 := Tryz.zeroValue20
  t31 := Tryz.underlying37
  a31 := Tryz.isAgg37
  z31 := Tryz.sizeOf37
  v31 := Tryz.zeroValue37
  t37 := Tryz.underlying122
  a37 := Tryz.isAgg122
  z37 := Tryz.sizeOf122
  v37 := Tryz.zeroValue122
  t70 := Tryz.underlying320
  a70 := Tryz.isAgg320
  z70 := Tryz.sizeOf320
  v70 := Tryz.zeroValue320
  t72 := Tryz.underlying322
  a72 := Tryz.isAgg322
  z72 := Tryz.sizeOf322
  v72 := Tryz.zeroValue322
  t75 := Tryz.underlying118
  a75 := Tryz.isAgg118
  z75 := Tryz.sizeOf118
  v75 := Tryz.zeroValue118
  t76 := Tryz.underlying119
  a76 := Tryz.isAgg119
  z76 := Tryz.sizeOf119
  v76 := Tryz.zeroValue119
  t127 := Tryz.underlying291
  a127 := Tryz.isAgg291
  z127 := Tryz.sizeOf291
  v127 := Tryz.zeroValue291
  t164 := Tryz.underlying358
  a164 := Tryz.isAgg358
  z164 := Tryz.sizeOf358
  v164 := Tryz.zeroValue358 }
theorem Tryz.Builder_Extra_156 : Builder.Extra Tryz.prog Tryz.lays156_ren := {
  sizeBuilder := by kernel_rfl
  liesBuilder := by kernel_rfl
  t5 := Tryz.underlying5
  a5 := Tryz.isAgg5
  z5 := Tryz.sizeOf5
  v5 := Tryz.zeroValue5
  infoByte := by kernel_rfl
  cellsByte := by kernel_rfl
  sizeByte := by kernel_rfl
  neB5 := by decide }
open Go.RowKit in
theorem Tryz.strings_Join_none (a : Option Addr) (c : Nat) (sep : ByteArray) (w : World) :
    Calls Tryz.prog 247 #[.slice a 0 c, .string sep] w fun e w' => e = .returned (.string ⟨#[]⟩) ∧ w' = w := Any.strings_Join_none Tryz.lays156 Tryz.Builder_Extra_156 a c sep w
open Go.RowKit in
theorem Tryz.strings_Join (bk o c : Nat) (xs : List ByteArray) (sep : ByteArray) (w : World) (hcells : ∀ (j : Nat) x, xs[j]? = some x → w.cell? ⟨bk, o + j, none⟩ = some (.string x)) (hbk : bk < w.heap.size) (hN : xs.length ≤ 140737488355328) (hcap : xs.length ≤ c) (hlen : (Lib.join (xs.map (·.data.toList)) sep.data.toList).length ≤ 140737488355328) :
    Calls Tryz.prog 247 #[.slice (some ⟨bk, o, none⟩) xs.length c, .string sep] w fun e w' => e = .returned (.string ⟨(Lib.join (xs.map (·.data.toList)) sep.data.toList).toArray⟩) ∧ Below w.heap.size w w' := Any.strings_Join Tryz.lays156 Tryz.Builder_Extra_156 bk o c xs sep w hcells hbk hN hcap hlen
def Tryz.lays161_ren : Go.Shelf.Ren := ⟨fun | 161 => 244 | 231 => 146 | 227 => 148 | 233 => 149 | 235 => 151 | 228 => 206 | 197 => 207 | 151 => 208 | 260 => 250 | 152 => 251 | 137 => 195 | 119 => 281 | 224 => 162 | 225 => 161 | 217 => 160 | 266 => 217 | n => n, fun | 9 => 9 | 4 => 4 | 3 => 3 | 5 => 5 | 117 => 187 | 116 => 186 | 0 => 0 | 124 => 190 | 105 => 243 | 21 => 21 | 119 => 225 | 46 => 200 | 139 => 327 | 138 => 326 | n => n, fun | 3 => 6 | 4 => 7 | n => n⟩
theorem Tryz.lays161 : Go.Proofs.Lays.n161 Tryz.prog Tryz.lays161_ren := {
  mixed := by kernel_rfl
  f119 := Tryz.func281.trans (congrArg some (by kernel_rfl))
  f137 := Tryz.func195.trans (congrArg some (by kernel_rfl))
  f151 := Tryz.func208.trans (congrArg some (by kernel_rfl))
  f152 := Tryz.func251.trans (congrArg some (by kernel_rfl))
  f161 := Tryz.func244.trans (congrArg some (by kernel_rfl))
  f197 := Tryz.func207.trans (congrArg some (by kernel_rfl))
  f217 := Tryz.func160.trans (congrArg some (by kernel_rfl))
  f224 := Tryz.func162.trans (congrArg some (by kernel_rfl))
  f225 := Tryz.func161.trans (congrArg some (by kernel_rfl))
  f227 := Tryz.func148.trans (congrArg some (by kernel_rfl))
  f228 := Tryz.func206.trans (congrArg some (by kernel_rfl))
  f231 := Tryz.func146.trans (congrArg some (by kernel_rfl))
  f233 := Tryz.func149.trans (congrArg some (by kernel_rfl))
  f235 := Tryz.func151.trans (congrArg some (by kernel_rfl))
  f260 := Tryz.func250.trans (congrArg some (by kernel_rfl))
  f266 := Tryz.func217.trans (congrArg some (by kernel_rfl))
  t0 := Tryz.underlying0
  a0 := Tryz.isAgg0
  z0 := Tryz.sizeOf0
  v0 := Tryz.zeroValue0
  t3 := Tryz.underlying3
  a3 := Tryz.isAgg3
  z3 := Tryz.sizeOf3
  v3 := Tryz.zeroValue3
  t4 := Tryz.underlying4
  a4 := Tryz.isAgg4
  z4 := Tryz.sizeOf4
  v4 := Tryz.zeroValue4
  t5 := Tryz.underlying5
  a5 := Tryz.isAgg5
  z5 := Tryz.sizeOf5
  v5 := Tryz.zeroValue5
  t9 := Tryz.underlying9
  a9 := Tryz.isAgg9
  z9 := Tryz.sizeOf9
  v9 := Tryz.zeroValue9
  t21 := Tryz.underlying21
  a21 := Tryz.isAgg21
  z21 := Tryz.sizeOf21
  v21 := Tryz.zeroValue21
  t46 := Tryz.underlying200
  a46 := Tryz.isAgg200
  z46 := Tryz.sizeOf200
  v46 := Tryz.zeroValue200
  t105 := Tryz.underlying243
  a105 := Tryz.isAgg243
  z105 := Tryz.sizeOf243
  v105 := Tryz.zeroValue243
  t116 := Tryz.underlying186
  a116 := Tryz.isAgg186
  z116 := Tryz.sizeOf186
  t117 := Tryz.underlying187
  a117 := Tryz.isAgg187
  z117 := Tryz.sizeOf187
  v117 := Tryz.zeroValue187
  t119 := Tryz.underlying225
  a119 := Tryz.isAgg225
  z119 := Tryz.sizeOf225
  t124 := Tryz.underlying190
  a124 := Tryz.isAgg190
  z124 := Tryz.sizeOf190
  v124 := Tryz.zeroValue190
  t138 := Tryz.underlying326
  a138 := Tryz.isAgg326
  z138 := Tryz.sizeOf326
  v138 := Tryz.zeroValue326
  t139 := Tryz.underlying327
  a139 := Tryz.isAgg327
  z139 := Tryz.sizeOf327
  v139 := Tryz.zeroValue327
  g3 := by kernel_rfl
  g4 := by kernel_rfl }
open Go.RowKit in
theorem Tryz.strings_TrimLeft_one (s : ByteArray) (c : UInt8) (hc : c.toNat < 128) (w : World) :
    Calls Tryz.prog 244 #[.string s, .string ⟨#[c]⟩] w fun e w' => e = .returned (.string ⟨(Lib.trimLeftB s.data.toList c).toArray⟩) ∧ w' = w := Any.strings_TrimLeft_one Tryz.lays161 s c hc w
def Tryz.lays106_ren : Go.Shelf.Ren := ⟨fun | 106 => 86 | 213 => 118 | 265 => 159 | n => n, fun | 9 => 9 | 3 => 3 | n => n, fun | n => n⟩
theorem Tryz.lays106 : Go.Proofs.Lays.n106 Tryz.prog Tryz.lays106_ren := {
  mixed := by kernel_rfl
  f106 := Tryz.func86.trans (congrArg some (by kernel_rfl))
  f213 := Tryz.func118.trans (congrArg some (by kernel_rfl))
  f265 := Tryz.func159.trans (congrArg some (by kernel_rfl))
  t3 := Tryz.underlying3
  a3 := Tryz.isAgg3
  z3 := Tryz.sizeOf3
  v3 := Tryz.zeroValue3
  t9 := Tryz.underlying9
  a9 := Tryz.isAgg9
  z9 := Tryz.sizeOf9
  v9 := Tryz.zeroValue9 }
open Go.RowKit in
theorem Tryz.strings_Compare (a b : ByteArray) (w : World) :
    Calls Tryz.prog 86 #[.string a, .string b] w fun e w' => e = .returned (.int .i64 (Lib.compareBytes a.data.toList b.data.toList)) ∧ w' = w := Any.strings_Compare Tryz.lays106 a b w
def Tryz.lays137_ren : Go.Shelf.Ren := ⟨fun | 137 => 195 | 217 => 160 | 266 => 217 | n => n, fun | 9 => 9 | 5 => 5 | 3 => 3 | n => n, fun | n => n⟩
theorem Tryz.lays137 : Go.Proofs.Lays.n137 Tryz.prog Tryz.lays137_ren := {
  mixed := by kernel_rfl
  f137 := Tryz.func195.trans (congrArg some (by kernel_rfl))
  f217 := Tryz.func160.trans (congrArg some (by kernel_rfl))
  f266 := Tryz.func217.trans (congrArg some (by kernel_rfl))
  t3 := Tryz.underlying3
  a3 := Tryz.isAgg3
  z3 := Tryz.sizeOf3
  v3 := Tryz.zeroValue3
  t5 := Tryz.underlying5
  a5 := Tryz.isAgg5
  z5 := Tryz.sizeOf5
  v5 := Tryz.zeroValue5
  t9 := Tryz.underlying9
  a9 := Tryz.isAgg9
  z9 := Tryz.sizeOf9
  v9 := Tryz.zeroValue9 }
open Go.RowKit in
theorem Tryz.strings_IndexByte (s : ByteArray) (c : Int) (w : World) :
    Calls Tryz.prog 195 #[.string s, .int .u8 c] w fun e w' => e = .returned (.int .i64 (Lib.indexByte s.data.toList c.toNat.toUInt8)) ∧ w' = w := Any.strings_IndexByte Tryz.lays137 s c w
def Tryz.lays103_ren : Go.Shelf.Ren := ⟨fun | 103 => 140 | 210 => 194 | 206 => 113 | n => n, fun | 9 => 9 | 4 => 4 | 24 => 141 | 3 => 3 | n => n, fun | n => n⟩
theorem Tryz.lays103 : Go.Proofs.Lays.n103 Tryz.prog Tryz.lays103_ren := {
  mixed := by kernel_rfl
  f103 := Tryz.func140.trans (congrArg some (by kernel_rfl))
  f206 := Tryz.func113.trans (congrArg some (by kernel_rfl))
  f210 := Tryz.func194.trans (congrArg some (by kernel_rfl))
  t3 := Tryz.underlying3
  a3 := Tryz.isAgg3
  z3 := Tryz.sizeOf3
  v3 := Tryz.zeroValue3
  t4 := Tryz.underlying4
  a4 := Tryz.isAgg4
  z4 := Tryz.sizeOf4
  v4 := Tryz.zeroValue4
  t9 := Tryz.underlying9
  a9 := Tryz.isAgg9
  z9 := Tryz.sizeOf9
  v9 := Tryz.zeroValue9
  t24 := Tryz.underlying141
  a24 := Tryz.isAgg141
  z24 := Tryz.sizeOf141
  v24 := Tryz.zeroValue141 }
open Go.RowKit in
theorem Tryz.strings_CutPrefix (s p : ByteArray) (w : World) :
    Calls Tryz.prog 140 #[.string s, .string p] w fun e w' => e = .returned (.tuple #[.string ⟨(Lib.trimPrefix s.data.toList p.data.toList).toArray⟩, .bool (Lib.hasPrefix s.data.toList p.data.toList)]) ∧ w' = w := Any.strings_CutPrefix Tryz.lays103 s p w
def Tryz.lays104_ren : Go.Shelf.Ren := ⟨fun | 104 => 235 | 211 => 271 | 207 => 289 | n => n, fun | 9 => 9 | 4 => 4 | 24 => 141 | 3 => 3 | n => n, fun | n => n⟩
theorem Tryz.lays104 : Go.Proofs.Lays.n104 Tryz.prog Tryz.lays104_ren := {
  mixed := by kernel_rfl
  f104 := Tryz.func235.trans (congrArg some (by kernel_rfl))
  f207 := Tryz.func289.trans (congrArg some (by kernel_rfl))
  f211 := Tryz.func271.trans (congrArg some (by kernel_rfl))
  t3 := Tryz.underlying3
  a3 := Tryz.isAgg3
  z3 := Tryz.sizeOf3
  v3 := Tryz.zeroValue3
  t4 := Tryz.underlying4
  a4 := Tryz.isAgg4
  z4 := Tryz.sizeOf4
  v4 := Tryz.zeroValue4
  t9 := Tryz.underlying9
  a9 := Tryz.isAgg9
  z9 := Tryz.sizeOf9
  v9 := Tryz.zeroValue9
  t24 := Tryz.underlying141
  a24 := Tryz.isAgg141
  z24 := Tryz.sizeOf141
  v24 := Tryz.zeroValue141 }
open Go.RowKit in
theorem Tryz.strings_CutSuffix (s p : ByteArray) (w : World) (hs : s.size ≤ 9223372036854775807) :
    Calls Tryz.prog 235 #[.string s, .string p] w fun e w' => e = .returned (.tuple #[.string ⟨(Lib.trimSuffix s.data.toList p.data.toList).toArray⟩, .bool (Lib.hasSuffix s.data.toList p.data.toList)]) ∧ w' = w := Any.strings_CutSuffix Tryz.lays104 s p w hs
def Tryz.laysM171_ren : Go.Shelf.Ren := ⟨fun | 171 => 79 | 243 => 116 | 246 => 158 | 283 => 213 | 284 => 214 | 285 => 215 | 286 => 216 | 129 => 256 | 317 => 255 | 318 => 257 | 319 => 258 | 320 => 259 | 337 => 282 | 338 => 283 | n => n, fun | 3 => 3 | 9 => 9 | 2 => 2 | 4 => 4 | 171 => 253 | 0 => 0 | 53 => 246 | 37 => 122 | 5 => 5 | 173 => 256 | 212 => 296 | 51 => 258 | 20 => 20 | 213 => 297 | 46 => 200 | 232 => 342 | 233 => 343 | n => n, fun | 17 => 5 | 18 => 8 | 19 => 9 | n => n⟩
theorem Tryz.laysM171 : Go.Proofs.LaysM.n171 Tryz.prog Tryz.laysM171_ren := {
  mixed := by kernel_rfl
  f129 := Tryz.func256.trans (congrArg some (by kernel_rfl))
  f171 := Tryz.func79.trans (congrArg some (by kernel_rfl))
  f243 := Tryz.func116.trans (congrArg some (by kernel_rfl))
  f246 := Tryz.func158.trans (congrArg some (by kernel_rfl))
  f283 := Tryz.func213.trans (congrArg some (by kernel_rfl))
  f284 := Tryz.func214.trans (congrArg some (by kernel_rfl))
  f285 := Tryz.func215.trans (congrArg some (by kernel_rfl))
  f286 := Tryz.func216.trans (congrArg some (by kernel_rfl))
  f317 := Tryz.func255.trans (congrArg some (by kernel_rfl))
  f318 := Tryz.func257.trans (congrArg some (by kernel_rfl))
  f319 := Tryz.func258.trans (congrArg some (by kernel_rfl))
  f320 := Tryz.func259.trans (congrArg some (by kernel_rfl))
  f337 := Tryz.func282.trans (congrArg some (by kernel_rfl))
  f338 := Tryz.func283.trans (congrArg some (by kernel_rfl))
  t0 := Tryz.underlying0
  a0 := Tryz.isAgg0
  z0 := Tryz.sizeOf0
  v0 := Tryz.zeroValue0
  t2 := Tryz.underlying2
  a2 := Tryz.isAgg2
  z2 := Tryz.sizeOf2
  v2 := Tryz.zeroValue2
  t3 := Tryz.underlying3
  a3 := Tryz.isAgg3
  z3 := Tryz.sizeOf3
  v3 := Tryz.zeroValue3
  t4 := Tryz.underlying4
  a4 := Tryz.isAgg4
  z4 := Tryz.sizeOf4
  v4 := Tryz.zeroValue4
  t5 := Tryz.underlying5
  a5 := Tryz.isAgg5
  z5 := Tryz.sizeOf5
  v5 := Tryz.zeroValue5
  t9 := Tryz.underlying9
  a9 := Tryz.isAgg9
  z9 := Tryz.sizeOf9
  v9 := Tryz.zeroValue9
  t20 := Tryz.underlying20
  a20 := Tryz.isAgg20
  z20 := Tryz.sizeOf20
  v20 := Tryz.zeroValue20
  t37 := Tryz.underlying122
  a37 := Tryz.isAgg122
  z37 := Tryz.sizeOf122
  v37 := Tryz.zeroValue122
  t46 := Tryz.underlying200
  a46 := Tryz.isAgg200
  z46 := Tryz.sizeOf200
  v46 := Tryz.zeroValue200
  t51 := Tryz.underlying258
  a51 := Tryz.isAgg258
  z51 := Tryz.sizeOf258
  v51 := Tryz.zeroValue258
  t53 := Tryz.underlying246
  a53 := Tryz.isAgg246
  z53 := Tryz.sizeOf246
  v53 := Tryz.zeroValue246
  t171 := Tryz.underlying253
  a171 := Tryz.isAgg253
  z171 := Tryz.sizeOf253
  v171 := Tryz.zeroValue253
  t173 := Tryz.underlying256
  a173 := Tryz.isAgg256
  z173 := Tryz.sizeOf256
  v173 := Tryz.zeroValue256
  t212 := Tryz.underlying296
  a212 := Tryz.isAgg296
  z212 := Tryz.sizeOf296
  v212 := Tryz.zeroValue296
  t213 := Tryz.underlying297
  a213 := Tryz.isAgg297
  z213 := Tryz.sizeOf297
  t232 := Tryz.underlying342
  a232 := Tryz.isAgg342
  z232 := Tryz.sizeOf342
  v232 := Tryz.zeroValue342
  t233 := Tryz.underlying343
  a233 := Tryz.isAgg343
  z233 := Tryz.sizeOf343
  v233 := Tryz.zeroValue343
  g17 := by kernel_rfl
  g18 := by kernel_rfl
  g19 := by kernel_rfl
  i0 := by kernel_rfl
  i2 := by kernel_rfl
  i3 := by kernel_rfl
  i4 := by kernel_rfl
  i5 := by kernel_rfl
  i9 := by kernel_rfl
  i20 := by kernel_rfl
  i37 := by kernel_rfl
  i46 := by kernel_rfl
  i51 := by kernel_rfl
  i53 := by kernel_rfl
  i171 := by kernel_rfl
  i173 := by kernel_rfl
  i212 := by kernel_rfl
  i232 := by kernel_rfl
  i233 := by kernel_rfl
  m17 := by kernel_rfl
  m18 := by kernel_rfl
  m19 := by kernel_rfl }
open Go.RowKit Go.Sort Go.Lib in
theorem Tryz.strconv_Itoa (n : Int) (h0 : -9223372036854775808 ≤ n) (h1 : n ≤ 9223372036854775807) (w : World) (htab : Lib.TabIs Tryz.prog w "internal/strconv.uint64pow10" .u64 Lib.pow10Tab) :
    Calls Tryz.prog 79 #[.int .i64 n] w fun e w' => e = .returned (.string ⟨(Lib.itoa n).toArray⟩) ∧ ∃ k os, w' = grow (w.drewN k) os := Any.strconv_Itoa Tryz.laysM171 n h0 h1 w htab
def Tryz.laysC172_ren : Go.Shelf.Ren := ⟨fun | 172 => 78 | 244 => 114 | 245 => 115 | 247 => 153 | 279 => 154 | 280 => 155 | 281 => 156 | 282 => 157 | 287 => 210 | 316 => 211 | 171 => 79 | 205 => 212 | 321 => 253 | 322 => 254 | 243 => 116 | 246 => 158 | 283 => 213 | 284 => 214 | 285 => 215 | 286 => 216 | 129 => 256 | 317 => 255 | 318 => 257 | 319 => 258 | 320 => 259 | 337 => 282 | 338 => 283 | n => n, fun | 9 => 9 | 3 => 3 | 75 => 118 | 76 => 119 | 4 => 4 | 5 => 5 | 167 => 191 | 37 => 122 | 0 => 0 | 85 => 192 | 2 => 2 | 168 => 194 | 53 => 246 | 175 => 247 | 46 => 200 | 210 => 251 | 127 => 291 | 145 => 294 | 143 => 292 | 21 => 21 | 171 => 253 | 173 => 256 | 212 => 296 | 51 => 258 | 20 => 20 | 213 => 297 | 232 => 342 | 233 => 343 | 80 => 324 | n => n, fun | 15 => 2 | 16 => 3 | 17 => 5 | 18 => 8 | 19 => 9 | n => n⟩
theorem Tryz.laysC172 : Go.Proofs.LaysC.n172 Tryz.prog Tryz.laysC172_ren := {
  mixed := by kernel_rfl
  f129 := Tryz.func256.trans (congrArg some (by kernel_rfl))
  f171 := Tryz.func79.trans (congrArg some (by kernel_rfl))
  f172 := Tryz.func78.trans (congrArg some (by kernel_rfl))
  f205 := Tryz.func212.trans (congrArg some (by kernel_rfl))
  f243 := Tryz.func116.trans (congrArg some (by kernel_rfl))
  f244 := Tryz.func114.trans (congrArg some (by kernel_rfl))
  f245 := Tryz.func115.trans (congrArg some (by kernel_rfl))
  f246 := Tryz.func158.trans (congrArg some (by kernel_rfl))
  f247 := Tryz.func153.trans (congrArg some (by kernel_rfl))
  f279 := Tryz.func154.trans (congrArg some (by kernel_rfl))
  f280 := Tryz.func155.trans (congrArg some (by kernel_rfl))
  f281 := Tryz.func156.trans (congrArg some (by kernel_rfl))
  f282 := Tryz.func157.trans (congrArg some (by kernel_rfl))
  f283 := Tryz.func213.trans (congrArg some (by kernel_rfl))
  f284 := Tryz.func214.trans (congrArg some (by kernel_rfl))
  f285 := Tryz.func215.trans (congrArg some (by kernel_rfl))
  f286 := Tryz.func216.trans (congrArg some (by kernel_rfl))
  f287 := Tryz.func210.trans (congrArg some (by kernel_rfl))
  f316 := Tryz.func211.trans (congrArg some (by kernel_rfl))
  f317 := Tryz.func255.trans (congrArg some (by kernel_rfl))
  f318 := Tryz.func257.trans (congrArg some (by kernel_rfl))
  f319 := Tryz.func258.trans (congrArg some (by kernel_rfl))
  f320 := Tryz.func259.trans (congrArg some (by kernel_rfl))
  f321 := Tryz.func253.trans (congrArg some (by kernel_rfl))
  f322 := Tryz.func254.trans (congrArg some (by kernel_rfl))
  f337 := Tryz.func282.trans (congrArg some (by kernel_rfl))
  f338 := Tryz.func283.trans (congrArg some (by kernel_rfl))
  t0 := Tryz.underlying0
  a0 := Tryz.isAgg0
  z0 := Tryz.sizeOf0
  v0 := Tryz.zeroValue0
  t2 := Tryz.underlying2
  a2 := Tryz.isAgg2
  z2 := Tryz.sizeOf2
  v2 := Tryz.zeroValue2
  t3 := Tryz.underlying3
  a3 := Tryz.isAgg3
  z3 := Tryz.sizeOf3
  v3 := Tryz.zeroValue3
  t4 := Tryz.underlying4
  a4 := Tryz.isAgg4
  z4 := Tryz.sizeOf4
  v4 := Tryz.zeroValue4
  t5 := Tryz.underlying5
  a5 := Tryz.isAgg5
  z5 := Tryz.sizeOf5
  v5 := Tryz.zeroValue5
  t9 := Tryz.underlying9
  a9 := Tryz.isAgg9
  z9 := Tryz.sizeOf9
  v9 := Tryz.zeroValue9
  t20 := Tryz.underlying20
  a20 := Tryz.isAgg20
  z20 := Tryz.sizeOf20
  v20 := Tryz.zeroValue20
  t21 := Tryz.underlying21
  a21 := Tryz.isAgg21
  z21 := Tryz.sizeOf21
  v21 := Tryz.zeroValue21
  t37 := Tryz.underlying122
  a37 := Tryz.isAgg122
  z37 := Tryz.sizeOf122
  v37 := Tryz.zeroValue122
  t46 := Tryz.underlying200
  a46 := Tryz.isAgg200
  z46 := Tryz.sizeOf200
  v46 := Tryz.zeroValue200
  t51 := Tryz.underlying258
  a51 := Tryz.isAgg258
  z51 := Tryz.sizeOf258
  v51 := Tryz.zeroValue258
  t53 := Tryz.underlying246
  a53 := Tryz.isAgg246
  z53 := Tryz.sizeOf246
  v53 := Tryz.zeroValue246
  t75 := Tryz.underlying118
  a75 := Tryz.isAgg118
  z75 := Tryz.sizeOf118
  v75 := Tryz.zeroValue118
  t76 := Tryz.underlying119
  a76 := Tryz.isAgg119
  z76 := Tryz.sizeOf119
  v76 := Tryz.zeroValue119
  t85 := Tryz.underlying192
  a85 := Tryz.isAgg192
  z85 := Tryz.sizeOf192
  v85 := Tryz.zeroValue192
  t127 := Tryz.underlying291
  a127 := Tryz.isAgg291
  z127 := Tryz.sizeOf291
  v127 := Tryz.zeroValue291
  t143 := Tryz.underlying292
  a143 := Tryz.isAgg292
  z143 := Tryz.sizeOf292
  v143 := Tryz.zeroValue292
  t145 := Tryz.underlying294
  a145 := Tryz.isAgg294
  z145 := Tryz.sizeOf294
  v145 := Tryz.zeroValue294
  t167 := Tryz.underlying191
  a167 := Tryz.isAgg191
  z167 := Tryz.sizeOf191
  v167 := Tryz.zeroValue191
  t168 := Tryz.underlying194
  a168 := Tryz.isAgg194
  z168 := Tryz.sizeOf194
  v168 := Tryz.zeroValue194
  t171 := Tryz.underlying253
  a171 := Tryz.isAgg253
  z171 := Tryz.sizeOf253
  v171 := Tryz.zeroValue253
  t173 := Tryz.underlying256
  a173 := Tryz.isAgg256
  z173 := Tryz.sizeOf256
  v173 := Tryz.zeroValue256
  t175 := Tryz.underlying247
  a175 := Tryz.isAgg247
  z175 := Tryz.sizeOf247
  v175 := Tryz.zeroValue247
  t210 := Tryz.underlying251
  a210 := Tryz.isAgg251
  z210 := Tryz.sizeOf251
  v210 := Tryz.zeroValue251
  t212 := Tryz.underlying296
  a212 := Tryz.isAgg296
  z212 := Tryz.sizeOf296
  v212 := Tryz.zeroValue296
  t213 := Tryz.underlying297
  a213 := Tryz.isAgg297
  z213 := Tryz.sizeOf297
  t232 := Tryz.underlying342
  a232 := Tryz.isAgg342
  z232 := Tryz.sizeOf342
  v232 := Tryz.zeroValue342
  t233 := Tryz.underlying343
  a233 := Tryz.isAgg343
  z233 := Tryz.sizeOf343
  v233 := Tryz.zeroValue343
  g15 := by kernel_rfl
  g16 := by kernel_rfl
  g17 := by kernel_rfl
  g18 := by kernel_rfl
  g19 := by kernel_rfl
  t80 := Tryz.underlying324
  a80 := Tryz.isAgg324
  z80 := Tryz.sizeOf324
  v80 := Tryz.zeroValue324
  i0 := by kernel_rfl
  i2 := by kernel_rfl
  i3 := by kernel_rfl
  i4 := by kernel_rfl
  i5 := by kernel_rfl
  i9 := by kernel_rfl
  i20 := by kernel_rfl
  i21 := by kernel_rfl
  i37 := by kernel_rfl
  i46 := by kernel_rfl
  i51 := by kernel_rfl
  i53 := by kernel_rfl
  i75 := by kernel_rfl
  i76 := by kernel_rfl
  i80 := by kernel_rfl
  i85 := by kernel_rfl
  i127 := by kernel_rfl
  i143 := by kernel_rfl
  i145 := by kernel_rfl
  i167 := by kernel_rfl
  i168 := by kernel_rfl
  i171 := by kernel_rfl
  i173 := by kernel_rfl
  i175 := by kernel_rfl
  i210 := by kernel_rfl
  i212 := by kernel_rfl
  i232 := by kernel_rfl
  i233 := by kernel_rfl
  m15 := by kernel_rfl
  m16 := by kernel_rfl
  m17 := by kernel_rfl
  m18 := by kernel_rfl
  m19 := by kernel_rfl
  c0 := by kernel_rfl
  c2 := by kernel_rfl
  c3 := by kernel_rfl
  c4 := by kernel_rfl
  c5 := by kernel_rfl
  c9 := by kernel_rfl
  c20 := by kernel_rfl
  c21 := by kernel_rfl
  c37 := by kernel_rfl
  c46 := by kernel_rfl
  c51 := by kernel_rfl
  c53 := by kernel_rfl
  c75 := by kernel_rfl
  c76 := by kernel_rfl
  c80 := by kernel_rfl
  c85 := by kernel_rfl
  c127 := by kernel_rfl
  c143 := by kernel_rfl
  c145 := by kernel_rfl
  c167 := by kernel_rfl
  c168 := by kernel_rfl
  c171 := by kernel_rfl
  c173 := by kernel_rfl
  c175 := by kernel_rfl
  c210 := by kernel_rfl
  c212 := by kernel_rfl
  c213 := by kernel_rfl
  c232 := by kernel_rfl
  c233 := by kernel_rfl }
open Go.RowKit in
theorem Tryz.strconv_Atoi_ok (s : ByteArray) (hmax : s.size ≤ 9223372036854775806) (v : Int) (h : Lib.atoiAll s.data.toList = .ok v) (w : World) :
    Calls Tryz.prog 78 #[.string s] w fun e w' => e = .returned (.tuple #[.int .i64 v, .nilIface]) ∧ (w' = w ∨ ∃ t, w' = Lib.bytesWorld w 5 t) := Any.strconv_Atoi_ok Tryz.laysC172 s hmax v h w
open Go.RowKit in
theorem Tryz.strconv_Atoi_syntax (s : ByteArray) (hlim : s.size ≤ 281474976710656) (h : Lib.atoiAll s.data.toList =Lib.atoiAll []) (ev : Value) (w : World) (hv : w.cell? ⟨2, 0, none⟩ = some ev) (hev : ev = .nilIface ∨ ∃ te pe, ev = .iface te pe) :
    Calls Tryz.prog 78 #[.string s] w fun e w' => ∃ N, e = .returned (.tuple #[.int .i64 (0), .iface 194 (.pointer (some ⟨N, 0, none⟩))]) ∧ w.heap.size ≤ N ∧ w'.heap[N]? = some (.cells #[.string ⟨#[65, 116, 111, 105]⟩, .string s, ev] 251 (0, 0)) ∧ Below w.heap.size w w' := Any.strconv_Atoi_syntax Tryz.laysC172 s hlim h ev w hv hev
open Go.RowKit in
theorem Tryz.strconv_Atoi_range (s : ByteArray) (hlim : s.size ≤ 281474976710656) (h : Lib.atoiAll s.data.toList = .range) (ev : Value) (w : World) (hv : w.cell? ⟨3, 0, none⟩ = some ev) (hev : ev = .nilIface ∨ ∃ te pe, ev = .iface te pe) :
    Calls Tryz.prog 78 #[.string s] w fun e w' => ∃ N, e = .returned (.tuple #[.int .i64 (Lib.atoiSat s.data.toList), .iface 194 (.pointer (some ⟨N, 0, none⟩))]) ∧ w.heap.size ≤ N ∧ w'.heap[N]? = some (.cells #[.string ⟨#[65, 116, 111, 105]⟩, .string s, ev] 251 (0, 0)) ∧ Below w.heap.size w w' := Any.strconv_Atoi_range Tryz.laysC172 s hlim h ev w hv hev
def Tryz.lays145_ren : Go.Shelf.Ren := ⟨fun | 145 => 55 | 220 => 88 | 219 => 119 | 217 => 160 | 225 => 161 | 224 => 162 | 267 => 163 | 266 => 217 | 314 => 218 | n => n, fun | 9 => 9 | 4 => 4 | 59 => 92 | 3 => 3 | 5 => 5 | 46 => 200 | 146 => 259 | 51 => 258 | n => n, fun | 1 => 0 | n => n⟩
theorem Tryz.lays145 : Go.Proofs.Lays.n145 Tryz.prog Tryz.lays145_ren := {
  mixed := by kernel_rfl
  f145 := Tryz.func55.trans (congrArg some (by kernel_rfl))
  f217 := Tryz.func160.trans (congrArg some (by kernel_rfl))
  f219 := Tryz.func119.trans (congrArg some (by kernel_rfl))
  f220 := Tryz.func88.trans (congrArg some (by kernel_rfl))
  f224 := Tryz.func162.trans (congrArg some (by kernel_rfl))
  f225 := Tryz.func161.trans (congrArg some (by kernel_rfl))
  f266 := Tryz.func217.trans (congrArg some (by kernel_rfl))
  f267 := Tryz.func163.trans (congrArg some (by kernel_rfl))
  f314 := Tryz.func218.trans (congrArg some (by kernel_rfl))
  t3 := Tryz.underlying3
  a3 := Tryz.isAgg3
  z3 := Tryz.sizeOf3
  v3 := Tryz.zeroValue3
  t4 := Tryz.underlying4
  a4 := Tryz.isAgg4
  z4 := Tryz.sizeOf4
  v4 := Tryz.zeroValue4
  t5 := Tryz.underlying5
  a5 := Tryz.isAgg5
  z5 := Tryz.sizeOf5
  v5 := Tryz.zeroValue5
  t9 := Tryz.underlying9
  a9 := Tryz.isAgg9
  z9 := Tryz.sizeOf9
  v9 := Tryz.zeroValue9
  t46 := Tryz.underlying200
  a46 := Tryz.isAgg200
  z46 := Tryz.sizeOf200
  v46 := Tryz.zeroValue200
  t51 := Tryz.underlying258
  a51 := Tryz.isAgg258
  z51 := Tryz.sizeOf258
  v51 := Tryz.zeroValue258
  t59 := Tryz.underlying92
  a59 := Tryz.isAgg92
  z59 := Tryz.sizeOf92
  v59 := Tryz.zeroValue92
  t146 := Tryz.underlying259
  a146 := Tryz.isAgg259
  z146 := Tryz.sizeOf259
  v146 := Tryz.zeroValue259
  g1 := by kernel_rfl }
open Go.RowKit Go.Lib in
theorem Tryz.strings_Cut (s sep : ByteArray) (m : Int) (w : World) (hs : s.size < 4294967281) (hm : w.cell? ⟨0, 0, none⟩ = some (.int .i64 m)) :
    Calls Tryz.prog 55 #[.string s, .string sep] w fun e w' => e = .returned (.tuple #[.string ⟨(Lib.cut s.data.toList sep.data.toList).1.toArray⟩, .string ⟨(Lib.cut s.data.toList sep.data.toList).2.1.toArray⟩, .bool (Lib.cut s.data.toList sep.data.toList).2.2]) ∧ ∃ n, w' = w.drewN n := Any.strings_Cut Tryz.lays145 s sep m w hs hm
def Tryz.lays99_ren : Go.Shelf.Ren := ⟨fun | 99 => 77 | 206 => 113 | n => n, fun | 9 => 9 | 4 => 4 | 3 => 3 | n => n, fun | n => n⟩
theorem Tryz.lays99 : Go.Proofs.Lays.n99 Tryz.prog Tryz.lays99_ren := {
  mixed := by kernel_rfl
  f99 := Tryz.func77.trans (congrArg some (by kernel_rfl))
  f206 := Tryz.func113.trans (congrArg some (by kernel_rfl))
  t3 := Tryz.underlying3
  a3 := Tryz.isAgg3
  z3 := Tryz.sizeOf3
  v3 := Tryz.zeroValue3
  t4 := Tryz.underlying4
  a4 := Tryz.isAgg4
  z4 := Tryz.sizeOf4
  v4 := Tryz.zeroValue4
  t9 := Tryz.underlying9
  a9 := Tryz.isAgg9
  z9 := Tryz.sizeOf9
  v9 := Tryz.zeroValue9 }
open Go.RowKit Go.Lib in
theorem Tryz.strings_HasPrefix (s p : ByteArray) (w : World) :
    Calls Tryz.prog 77 #[.string s, .string p] w fun e w' => e = .returned (.bool (Lib.hasPrefix s.data.toList p.data.toList)) ∧ w' = w := Any.strings_HasPrefix Tryz.lays99 s p w
def Tryz.lays102_ren : Go.Shelf.Ren := ⟨fun | 102 => 249 | 209 => 280 | 207 => 289 | n => n, fun | 9 => 9 | 4 => 4 | 3 => 3 | n => n, fun | n => n⟩
theorem Tryz.lays102 : Go.Proofs.Lays.n102 Tryz.prog Tryz.lays102_ren := {
  mixed := by kernel_rfl
  f102 := Tryz.func249.trans (congrArg some (by kernel_rfl))
  f207 := Tryz.func289.trans (congrArg some (by kernel_rfl))
  f209 := Tryz.func280.trans (congrArg some (by kernel_rfl))
  t3 := Tryz.underlying3
  a3 := Tryz.isAgg3
  z3 := Tryz.sizeOf3
  v3 := Tryz.zeroValue3
  t4 := Tryz.underlying4
  a4 := Tryz.isAgg4
  z4 := Tryz.sizeOf4
  v4 := Tryz.zeroValue4
  t9 := Tryz.underlying9
  a9 := Tryz.isAgg9
  z9 := Tryz.sizeOf9
  v9 := Tryz.zeroValue9 }
open Go.RowKit Go.Lib in
theorem Tryz.strings_TrimSuffix (s p : ByteArray) (w : World) (hs : s.size ≤ 9223372036854775807) :
    Calls Tryz.prog 249 #[.string s, .string p] w fun e w' => e = .returned (.string ⟨(Lib.trimSuffix s.data.toList p.data.toList).toArray⟩) ∧ w' = w := Any.strings_TrimSuffix Tryz.lays102 s p w hs
def Tryz.lays146_ren : Go.Shelf.Ren := ⟨fun | 146 => 143 | 221 => 198 | 268 => 238 | 138 => 239 | 143 => 240 | 195 => 272 | 197 => 207 | 218 => 273 | 219 => 119 | 260 => 250 | 217 => 160 | 225 => 161 | 224 => 162 | 267 => 163 | 266 => 217 | 314 => 218 | n => n, fun | 9 => 9 | 31 => 37 | 3 => 3 | 4 => 4 | 0 => 0 | 105 => 243 | 21 => 21 | 5 => 5 | 46 => 200 | 119 => 225 | 139 => 327 | 138 => 326 | 146 => 259 | 51 => 258 | n => n, fun | 1 => 0 | 3 => 6 | 4 => 7 | n => n⟩
theorem Tryz.lays146 : Go.Proofs.Lays.n146 Tryz.prog Tryz.lays146_ren := {
  mixed := by kernel_rfl
  f138 := Tryz.func239.trans (congrArg some (by kernel_rfl))
  f143 := Tryz.func240.trans (congrArg some (by kernel_rfl))
  f146 := Tryz.func143.trans (congrArg some (by kernel_rfl))
  f195 := Tryz.func272.trans (congrArg some (by kernel_rfl))
  f197 := Tryz.func207.trans (congrArg some (by kernel_rfl))
  f217 := Tryz.func160.trans (congrArg some (by kernel_rfl))
  f218 := Tryz.func273.trans (congrArg some (by kernel_rfl))
  f219 := Tryz.func119.trans (congrArg some (by kernel_rfl))
  f221 := Tryz.func198.trans (congrArg some (by kernel_rfl))
  f224 := Tryz.func162.trans (congrArg some (by kernel_rfl))
  f225 := Tryz.func161.trans (congrArg some (by kernel_rfl))
  f260 := Tryz.func250.trans (congrArg some (by kernel_rfl))
  f266 := Tryz.func217.trans (congrArg some (by kernel_rfl))
  f267 := Tryz.func163.trans (congrArg some (by kernel_rfl))
  f268 := Tryz.func238.trans (congrArg some (by kernel_rfl))
  f314 := Tryz.func218.trans (congrArg some (by kernel_rfl))
  t0 := Tryz.underlying0
  a0 := Tryz.isAgg0
  z0 := Tryz.sizeOf0
  v0 := Tryz.zeroValue0
  t3 := Tryz.underlying3
  a3 := Tryz.isAgg3
  z3 := Tryz.sizeOf3
  v3 := Tryz.zeroValue3
  t4 := Tryz.underlying4
  a4 := Tryz.isAgg4
  z4 := Tryz.sizeOf4
  v4 := Tryz.zeroValue4
  t5 := Tryz.underlying5
  a5 := Tryz.isAgg5
  z5 := Tryz.sizeOf5
  v5 := Tryz.zeroValue5
  t9 := Tryz.underlying9
  a9 := Tryz.isAgg9
  z9 := Tryz.sizeOf9
  v9 := Tryz.zeroValue9
  t21 := Tryz.underlying21
  a21 := Tryz.isAgg21
  z21 := Tryz.sizeOf21
  v21 := Tryz.zeroValue21
  t31 := Tryz.underlying37
  a31 := Tryz.isAgg37
  z31 := Tryz.sizeOf37
  v31 := Tryz.zeroValue37
  t46 := Tryz.underlying200
  a46 := Tryz.isAgg200
  z46 := Tryz.sizeOf200
  v46 := Tryz.zeroValue200
  t51 := Tryz.underlying258
  a51 := Tryz.isAgg258
  z51 := Tryz.sizeOf258
  v51 := Tryz.zeroValue258
  t105 := Tryz.underlying243
  a105 := Tryz.isAgg243
  z105 := Tryz.sizeOf243
  v105 := Tryz.zeroValue243
  t119 := Tryz.underlying225
  a119 := Tryz.isAgg225
  z119 := Tryz.sizeOf225
  t138 := Tryz.underlying326
  a138 := Tryz.isAgg326
  z138 := Tryz.sizeOf326
  v138 := Tryz.zeroValue326
  t139 := Tryz.underlying327
  a139 := Tryz.isAgg327
  z139 := Tryz.sizeOf327
  v139 := Tryz.zeroValue327
  t146 := Tryz.underlying259
  a146 := Tryz.isAgg259
  z146 := Tryz.sizeOf259
  v146 := Tryz.zeroValue259
  g1 := by kernel_rfl
  g3 := by kernel_rfl
  g4 := by kernel_rfl }
open Go.RowKit Go.Lib in
theorem Tryz.strings_Split (s sep : ByteArray) (m : Int) (w : World) (hs : s.size < 4294967281) (hm : w.cell? ⟨0, 0, none⟩ = some (.int .i64 m)) (h1 : 1 ≤ sep.size) :
    Calls Tryz.prog 143 #[.string s, .string sep] w fun e w' =>
      e = .returned (.slice (some ⟨w.heap.size, 0, none⟩) (Lib.countB s sep + 1) (Lib.countB s sep + 1)) ∧ w' = w.alloc (.cells ((Lib.splitB sep 0 (Lib.countB s sep) s).map Value.string).toArray 9) := Any.strings_Split Tryz.lays146 (by kernel_rfl) s sep m w hs hm h1
def Tryz.lays157_ren : Go.Shelf.Ren := ⟨fun | 157 => 139 | 229 => 192 | 199 => 193 | 261 => 234 | 311 => 269 | 312 => 270 | n => n, fun | 9 => 9 | 31 => 37 | 3 => 3 | 5 => 5 | 4 => 4 | 119 => 225 | 0 => 0 | 40 => 227 | 152 => 275 | 21 => 21 | 154 => 277 | 51 => 258 | 141 => 279 | 196 => 309 | 193 => 306 | 198 => 312 | 49 => 310 | 194 => 307 | 201 => 315 | 226 => 333 | 46 => 200 | 227 => 334 | n => n, fun | 0 => 1 | 6 => 4 | n => n⟩
theorem Tryz.lays157 : Go.Proofs.Lays.n157 Tryz.prog Tryz.lays157_ren := {
  mixed := by kernel_rfl
  f157 := Tryz.func139.trans (congrArg some (by kernel_rfl))
  f199 := Tryz.func193.trans (congrArg some (by kernel_rfl))
  f229 := Tryz.func192.trans (congrArg some (by kernel_rfl))
  f261 := Tryz.func234.trans (congrArg some (by kernel_rfl))
  f311 := Tryz.func269.trans (congrArg some (by kernel_rfl))
  f312 := Tryz.func270.trans (congrArg some (by kernel_rfl))
  t0 := Tryz.underlying0
  a0 := Tryz.isAgg0
  z0 := Tryz.sizeOf0
  v0 := Tryz.zeroValue0
  t3 := Tryz.underlying3
  a3 := Tryz.isAgg3
  z3 := Tryz.sizeOf3
  v3 := Tryz.zeroValue3
  t4 := Tryz.underlying4
  a4 := Tryz.isAgg4
  z4 := Tryz.sizeOf4
  v4 := Tryz.zeroValue4
  t5 := Tryz.underlying5
  a5 := Tryz.isAgg5
  z5 := Tryz.sizeOf5
  v5 := Tryz.zeroValue5
  t9 := Tryz.underlying9
  a9 := Tryz.isAgg9
  z9 := Tryz.sizeOf9
  v9 := Tryz.zeroValue9
  t21 := Tryz.underlying21
  a21 := Tryz.isAgg21
  z21 := Tryz.sizeOf21
  v21 := Tryz.zeroValue21
  t31 := Tryz.underlying37
  a31 := Tryz.isAgg37
  z31 := Tryz.sizeOf37
  v31 := Tryz.zeroValue37
  t40 := Tryz.underlying227
  a40 := Tryz.isAgg227
  z40 := Tryz.sizeOf227
  v40 := Tryz.zeroValue227
  t46 := Tryz.underlying200
  a46 := Tryz.isAgg200
  z46 := Tryz.sizeOf200
  v46 := Tryz.zeroValue200
  t49 := Tryz.underlying310
  a49 := Tryz.isAgg310
  z49 := Tryz.sizeOf310
  v49 := Tryz.zeroValue310
  t51 := Tryz.underlying258
  a51 := Tryz.isAgg258
  z51 := Tryz.sizeOf258
  v51 := Tryz.zeroValue258
  t119 := Tryz.underlying225
  a119 := Tryz.isAgg225
  z119 := Tryz.sizeOf225
  t141 := Tryz.underlying279
  a141 := Tryz.isAgg279
  z141 := Tryz.sizeOf279
  v141 := Tryz.zeroValue279
  t152 := Tryz.underlying275
  a152 := Tryz.isAgg275
  z152 := Tryz.sizeOf275
  v152 := Tryz.zeroValue275
  t154 := Tryz.underlying277
  a154 := Tryz.isAgg277
  z154 := Tryz.sizeOf277
  v154 := Tryz.zeroValue277
  t193 := Tryz.underlying306
  a193 := Tryz.isAgg306
  z193 := Tryz.sizeOf306
  v193 := Tryz.zeroValue306
  t194 := Tryz.underlying307
  a194 := Tryz.isAgg307
  z194 := Tryz.sizeOf307
  v194 := Tryz.zeroValue307
  t196 := Tryz.underlying309
  a196 := Tryz.isAgg309
  z196 := Tryz.sizeOf309
  v196 := Tryz.zeroValue309
  t198 := Tryz.underlying312
  a198 := Tryz.isAgg312
  z198 := Tryz.sizeOf312
  v198 := Tryz.zeroValue312
  t201 := Tryz.underlying315
  a201 := Tryz.isAgg315
  z201 := Tryz.sizeOf315
  v201 := Tryz.zeroValue315
  t226 := Tryz.underlying333
  a226 := Tryz.isAgg333
  z226 := Tryz.sizeOf333
  v226 := Tryz.zeroValue333
  t227 := Tryz.underlying334
  a227 := Tryz.isAgg334
  z227 := Tryz.sizeOf334
  v227 := Tryz.zeroValue334
  g0 := by kernel_rfl
  g6 := by kernel_rfl }
open Go.RowKit Go.Lib in
theorem Tryz.strings_Fields (s : ByteArray) (w : World) (hs : s.size < 4294967281) (hascii : ∀ (j : Nat) b, s.data.toList[j]? = some b → b.toNat < 128) (htab : Lib.TabIs Tryz.prog w "strings.asciiSpace" .u8 Lib.asciiSpaceTab) :
    Calls Tryz.prog 139 #[.string s] w fun e w' =>
      e = .returned (.slice (some ⟨w.heap.size, 0, none⟩) (Lib.fields s.data.toList).length (Lib.fields s.data.toList).length) ∧ w' = w.alloc (.cells ((Lib.fields s.data.toList).map fun l => Value.string ⟨l.toArray⟩).toArray 9) := Any.strings_Fields Tryz.lays157 (by kernel_rfl) (by kernel_rfl) s w hs hascii htab
end Go.Proofs
