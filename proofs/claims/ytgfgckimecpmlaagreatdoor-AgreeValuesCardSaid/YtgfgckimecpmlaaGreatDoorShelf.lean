/-
  Contracts of the library's functions at this program (cut out of the kit's plain shelf text: what is used of it).
-/
import Derived.Shelf.Strings.Builder1
import Derived.Shelf.Strings.Builder2
import Derived.Shelf.Strings.OnBuilder
import Derived.Shelf.Strings.Trim
import Derived.Shelf.Small.Utf8
import Derived.Shelf.Small.Strs
import Derived.Shelf.Small.Wraps
import Derived.Shelf.Strconv.Atoi
import Derived.Shelf.Strconv.Itoa0
import Derived.Shelf.Strconv.Itoa1
import Derived.Shelf.LaysM
import Derived.Shelf.Strconv.Itoa2
import Derived.Shelf.Strconv.Itoa3
import Derived.Shelf.Strconv.AtoiErrFast
import Derived.Shelf.Strconv.ParseIntEmpty
import Derived.Shelf.Strconv.AtoiFail
import Derived.Shelf.Strconv.Clone
import Derived.Shelf.Strconv.SyntaxError
import Derived.Shelf.LaysC
import Derived.Shelf.Strconv.ToError
import Derived.Shelf.Strconv.Lower
import Derived.Shelf.Strconv.ParseUint10
import Derived.Shelf.Strconv.ParseUint10Empty
import Derived.Shelf.Strconv.ParseUint10Any
import Derived.Shelf.Strconv.ParseInt10
import Derived.Shelf.Strconv.AtoiLong
import Derived.Shelf.Strconv.AtoiInnerAll
import Derived.Shelf.Strconv.RangeError
import Derived.Shelf.Strconv.ToErrorRange
import Derived.Shelf.Strconv.AtoiAll
import Derived.Shelf.Strconv.ErrVarAll
import Derived.Shelf.Strings.Search1
import Derived.Shelf.Strings.Search2
import Derived.Shelf.Strings.Search3
import Derived.Shelf.Strings.Cut
import Derived.Shelf.Strings.Count
import Derived.Shelf.Strings.Shaped
import Derived.Shelf.Sort.Plain
import Derived.Shelf.Strings.Prefix
import Derived.Shelf.Strings.Split
import Derived.Shelf.Strings.Fields
import Derived.Shelf.Strings.SplitShaped
import Derived.Shelf.Unicode.Latin
import Derived.Shelf.Strings.Runes
import Derived.Shelf.Strings.AsciiSet
import Derived.Shelf.Unicode.DecodeSlow
import Derived.Shelf.Unicode.Is16White
import Derived.Shelf.Unicode.IsSpaceAny
import Derived.Shelf.Unicode.Is16Any
import Derived.Shelf.Unicode.Is32Any
import Derived.Shelf.Unicode.ExclAny
import Derived.Shelf.Slices.Turned
import Derived.Test.YtgfgckimecpmlaaGreatDoorProg
namespace Go.Proofs
open Go.Shelf
def Tryz.lays156_ren : Go.Shelf.Ren := ⟨fun | 156 => 273 | 165 => 300 | 166 => 301 | 169 => 302 | 240 => 316 | 241 => 317 | 276 => 323 | 277 => 324 | n => n, fun | 31 => 78 | 9 => 9 | 3 => 3 | 4 => 4 | 0 => 0 | 20 => 20 | 72 => 342 | 76 => 227 | 70 => 340 | 37 => 229 | 75 => 226 | 127 => 357 | 164 => 365 | 5 => 5 | 80 => 344 | n => n, fun | n => n⟩
theorem Tryz.lays156 : Go.Proofs.Lays.n156 Tryz.prog Tryz.lays156_ren := {
  mixed := by kernel_rfl
  f156 := Tryz.func273.trans (congrArg some (by kernel_rfl))
  f165 := Tryz.func300.trans (congrArg some (by kernel_rfl))
  f166 := Tryz.func301.trans (congrArg some (by kernel_rfl))
  f169 := Tryz.func302.trans (congrArg some (by kernel_rfl))
  f240 := Tryz.func316.trans (congrArg some (by kernel_rfl))
  f241 := Tryz.func317.trans (congrArg some (by kernel_rfl))
  f276 := Tryz.func323.trans (congrArg some (by kernel_rfl))
  f277 := Tryz.func324.trans (congrArg some (by kernel_rfl))
  t0 := Tryz.underlying0
  a0 := Tryz.isAgg0
  z0 := Tryz.sizeOf0
  v0 := Tryz.zeroValue0
  t3 := Tryz.underlying3
  a3 := Tryz.isAgg3
  z3 := Tryz.sizeOf3
  v3 := Tryz.zeroValue3
  t4 := Tryz.underlying4
  a4 := Tryz.isAgg4
  z4 := Tryz.sizeOf4
  v4 := Tryz.zeroValue4
  t9 := Tryz.underlying9
  a9 := Tryz.isAgg9
  z9 := Tryz.sizeOf9
  v9 := Tryz.zeroValue9
  t20 := Tryz.underlying20
  a20 := Tryz.isAgg20
  z20 := Tryz.sizeOf20
  v20 := Tryz.zeroValue20
  t31 := Tryz.underlying78
  a31 := Tryz.isAgg78
  z31 := Tryz.sizeOf78
  v31 := Tryz.zeroValue78
  t37 := Tryz.underlying229
  a37 := Tryz.isAgg229
  z37 := Tryz.sizeOf229
  v37 := Tryz.zeroValue229
  t70 := Tryz.underlying340
  a70 := Tryz.isAgg340
  z70 := Tryz.sizeOf340
  v70 := Tryz.zeroValue340
  t72 := Tryz.underlying342
  a72 := Tryz.isAgg342
  z72 := Tryz.sizeOf342
  v72 := Tryz.zeroValue342
  t75 := Tryz.underlying226
  a75 := Tryz.isAgg226
  z75 := Tryz.sizeOf226
  v75 := Tryz.zeroValue226
  t76 := Tryz.underlying227
  a76 := Tryz.isAgg227
  z76 := Tryz.sizeOf227
  v76 := Tryz.zeroValue227
  t127 := Tryz.underlying357
  a127 := Tryz.isAgg357
  z127 := Tryz.sizeOf357
  v127 := Tryz.zeroValue357
  t164 := Tryz.underlying365
  a164 := Tryz.isAgg365
  z164 := Tryz.sizeOf365
  v164 := Tryz.zeroValue365 }
theorem Tryz.Builder_Extra_156 : Builder.Extra Tryz.prog Tryz.lays156_ren := {
  sizeBuilder := by kernel_rfl
  liesBuilder := by kernel_rfl
  t5 := Tryz.underlying5
  a5 := Tryz.isAgg5
  z5 := Tryz.sizeOf5
  v5 := Tryz.zeroValue5
  infoByte := by kernel_rfl
  cellsByte := by kernel_rfl
  sizeByte := by kernel_rfl
  neB5 := by decide }
open Go.RowKit in
theorem Tryz.strings_Join_none (a : Option Addr) (c : Nat) (sep : ByteArray) (w : World) :
    Calls Tryz.prog 273 #[.slice a 0 c, .string sep] w fun e w' => e = .returned (.string ⟨#[]⟩) ∧ w' = w := Any.strings_Join_none Tryz.lays156 Tryz.Builder_Extra_156 a c sep w
open Go.RowKit in
theorem Tryz.strings_Join (bk o c : Nat) (xs : List ByteArray) (sep : ByteArray) (w : World) (hcells : ∀ (j : Nat) x, xs[j]? = some x → w.cell? ⟨bk, o + j, none⟩ = some (.string x)) (hbk : bk < w.heap.size) (hN : xs.length ≤ 140737488355328) (hcap : xs.length ≤ c) (hlen : (Lib.join (xs.map (·.data.toList)) sep.data.toList).length ≤ 140737488355328) :
    Calls Tryz.prog 273 #[.slice (some ⟨bk, o, none⟩) xs.length c, .string sep] w fun e w' => e = .returned (.string ⟨(Lib.join (xs.map (·.data.toList)) sep.data.toList).toArray⟩) ∧ Below w.heap.size w w' := Any.strings_Join Tryz.lays156 Tryz.Builder_Extra_156 bk o c xs sep w hcells hbk hN hcap hlen
def Tryz.lays161_ren : Go.Shelf.Ren := ⟨fun | 161 => 271 | 231 => 238 | 227 => 240 | 233 => 241 | 235 => 243 | 228 => 282 | 197 => 283 | 151 => 284 | 260 => 309 | 152 => 310 | 137 => 167 | 119 => 320 | 224 => 295 | 225 => 294 | 217 => 234 | 266 => 280 | n => n, fun | 9 => 9 | 4 => 4 | 3 => 3 | 5 => 5 | 117 => 288 | 116 => 287 | 0 => 0 | 124 => 291 | 105 => 325 | 21 => 21 | 119 => 205 | 46 => 210 | 139 => 360 | 138 => 359 | n => n, fun | 3 => 6 | 4 => 7 | n => n⟩
theorem Tryz.lays161 : Go.Proofs.Lays.n161 Tryz.prog Tryz.lays161_ren := {
  mixed := by kernel_rfl
  f119 := Tryz.func320.trans (congrArg some (by kernel_rfl))
  f137 := Tryz.func167.trans (congrArg some (by kernel_rfl))
  f151 := Tryz.func284.trans (congrArg some (by kernel_rfl))
  f152 := Tryz.func310.trans (congrArg some (by kernel_rfl))
  f161 := Tryz.func271.trans (congrArg some (by kernel_rfl))
  f197 := Tryz.func283.trans (congrArg some (by kernel_rfl))
  f217 := Tryz.func234.trans (congrArg some (by kernel_rfl))
  f224 := Tryz.func295.trans (congrArg some (by kernel_rfl))
  f225 := Tryz.func294.trans (congrArg some (by kernel_rfl))
  f227 := Tryz.func240.trans (congrArg some (by kernel_rfl))
  f228 := Tryz.func282.trans (congrArg some (by kernel_rfl))
  f231 := Tryz.func238.trans (congrArg some (by kernel_rfl))
  f233 := Tryz.func241.trans (congrArg some (by kernel_rfl))
  f235 := Tryz.func243.trans (congrArg some (by kernel_rfl))
  f260 := Tryz.func309.trans (congrArg some (by kernel_rfl))
  f266 := Tryz.func280.trans (congrArg some (by kernel_rfl))
  t0 := Tryz.underlying0
  a0 := Tryz.isAgg0
  z0 := Tryz.sizeOf0
  v0 := Tryz.zeroValue0
  t3 := Tryz.underlying3
  a3 := Tryz.isAgg3
  z3 := Tryz.sizeOf3
  v3 := Tryz.zeroValue3
  t4 := Tryz.underlying4
  a4 := Tryz.isAgg4
  z4 := Tryz.sizeOf4
  v4 := Tryz.zeroValue4
  t5 := Tryz.underlying5
  a5 := Tryz.isAgg5
  z5 := Tryz.sizeOf5
  v5 := Tryz.zeroValue5
  t9 := Tryz.underlying9
  a9 := Tryz.isAgg9
  z9 := Tryz.sizeOf9
  v9 := Tryz.zeroValue9
  t21 := Tryz.underlying21
  a21 := Tryz.isAgg21
  z21 := Tryz.sizeOf21
  v21 := Tryz.zeroValue21
  t46 := Tryz.underlying210
  a46 := Tryz.isAgg210
  z46 := Tryz.sizeOf210
  v46 := Tryz.zeroValue210
  t105 := Tryz.underlying325
  a105 := Tryz.isAgg325
  z105 := Tryz.sizeOf325
  v105 := Tryz.zeroValue325
  t116 := Tryz.underlying287
  a116 := Tryz.isAgg287
  z116 := Tryz.sizeOf287
  t117 := Tryz.underlying288
  a117 := Tryz.isAgg288
  z117 := Tryz.sizeOf288
  v117 := Tryz.zeroValue288
  t119 := Tryz.underlying205
  a119 := Tryz.isAgg205
  z119 := Tryz.sizeOf205
  t124 := Tryz.underlying291
  a124 := Tryz.isAgg291
  z124 := Tryz.sizeOf291
  v124 := Tryz.zeroValue291
  t138 := Tryz.underlying359
  a138 := Tryz.isAgg359
  z138 := Tryz.sizeOf359
  v138 := Tryz.zeroValue359
  t139 := Tryz.underlying360
  a139 := Tryz.isAgg360
  z139 := Tryz.sizeOf360
  v139 := Tryz.zeroValue360
  g3 := by kernel_rfl
  g4 := by kernel_rfl }
open Go.RowKit in
theorem Tryz.strings_TrimLeft_one (s : ByteArray) (c : UInt8) (hc : c.toNat < 128) (w : World) :
    Calls Tryz.prog 271 #[.string s, .string ⟨#[c]⟩] w fun e w' => e = .returned (.string ⟨(Lib.trimLeftB s.data.toList c).toArray⟩) ∧ w' = w := Any.strings_TrimLeft_one Tryz.lays161 s c hc w
def Tryz.lays137_ren : Go.Shelf.Ren := ⟨fun | 137 => 167 | 217 => 234 | 266 => 280 | n => n, fun | 9 => 9 | 5 => 5 | 3 => 3 | n => n, fun | n => n⟩
theorem Tryz.lays137 : Go.Proofs.Lays.n137 Tryz.prog Tryz.lays137_ren := {
  mixed := by kernel_rfl
  f137 := Tryz.func167.trans (congrArg some (by kernel_rfl))
  f217 := Tryz.func234.trans (congrArg some (by kernel_rfl))
  f266 := Tryz.func280.trans (congrArg some (by kernel_rfl))
  t3 := Tryz.underlying3
  a3 := Tryz.isAgg3
  z3 := Tryz.sizeOf3
  v3 := Tryz.zeroValue3
  t5 := Tryz.underlying5
  a5 := Tryz.isAgg5
  z5 := Tryz.sizeOf5
  v5 := Tryz.zeroValue5
  t9 := Tryz.underlying9
  a9 := Tryz.isAgg9
  z9 := Tryz.sizeOf9
  v9 := Tryz.zeroValue9 }
open Go.RowKit in
theorem Tryz.strings_IndexByte (s : ByteArray) (c : Int) (w : World) :
    Calls Tryz.prog 167 #[.string s, .int .u8 c] w fun e w' => e = .returned (.int .i64 (Lib.indexByte s.data.toList c.toNat.toUInt8)) ∧ w' = w := Any.strings_IndexByte Tryz.lays137 s c w
def Tryz.lays103_ren : Go.Shelf.Ren := ⟨fun | 103 => 161 | 210 => 225 | 206 => 245 | n => n, fun | 9 => 9 | 4 => 4 | 24 => 150 | 3 => 3 | n => n, fun | n => n⟩
theorem Tryz.lays103 : Go.Proofs.Lays.n103 Tryz.prog Tryz.lays103_ren := {
  mixed := by kernel_rfl
  f103 := Tryz.func161.trans (congrArg some (by kernel_rfl))
  f206 := Tryz.func245.trans (congrArg some (by kernel_rfl))
  f210 := Tryz.func225.trans (congrArg some (by kernel_rfl))
  t3 := Tryz.underlying3
  a3 := Tryz.isAgg3
  z3 := Tryz.sizeOf3
  v3 := Tryz.zeroValue3
  t4 := Tryz.underlying4
  a4 := Tryz.isAgg4
  z4 := Tryz.sizeOf4
  v4 := Tryz.zeroValue4
  t9 := Tryz.underlying9
  a9 := Tryz.isAgg9
  z9 := Tryz.sizeOf9
  v9 := Tryz.zeroValue9
  t24 := Tryz.underlying150
  a24 := Tryz.isAgg150
  z24 := Tryz.sizeOf150
  v24 := Tryz.zeroValue150 }
open Go.RowKit in
theorem Tryz.strings_CutPrefix (s p : ByteArray) (w : World) :
    Calls Tryz.prog 161 #[.string s, .string p] w fun e w' => e = .returned (.tuple #[.string ⟨(Lib.trimPrefix s.data.toList p.data.toList).toArray⟩, .bool (Lib.hasPrefix s.data.toList p.data.toList)]) ∧ w' = w := Any.strings_CutPrefix Tryz.lays103 s p w
def Tryz.lays104_ren : Go.Shelf.Ren := ⟨fun | 104 => 235 | 211 => 281 | 207 => 308 | n => n, fun | 9 => 9 | 4 => 4 | 24 => 150 | 3 => 3 | n => n, fun | n => n⟩
theorem Tryz.lays104 : Go.Proofs.Lays.n104 Tryz.prog Tryz.lays104_ren := {
  mixed := by kernel_rfl
  f104 := Tryz.func235.trans (congrArg some (by kernel_rfl))
  f207 := Tryz.func308.trans (congrArg some (by kernel_rfl))
  f211 := Tryz.func281.trans (congrArg some (by kernel_rfl))
  t3 := Tryz.underlying3
  a3 := Tryz.isAgg3
  z3 := Tryz.sizeOf3
  v3 := Tryz.zeroValue3
  t4 := Tryz.underlying4
  a4 := Tryz.isAgg4
  z4 := Tryz.sizeOf4
  v4 := Tryz.zeroValue4
  t9 := Tryz.underlying9
  a9 := Tryz.isAgg9
  z9 := Tryz.sizeOf9
  v9 := Tryz.zeroValue9
  t24 := Tryz.underlying150
  a24 := Tryz.isAgg150
  z24 := Tryz.sizeOf150
  v24 := Tryz.zeroValue150 }
open Go.RowKit in
theorem Tryz.strings_CutSuffix (s p : ByteArray) (w : World) (hs : s.size ≤ 9223372036854775807) :
    Calls Tryz.prog 235 #[.string s, .string p] w fun e w' => e = .returned (.tuple #[.string ⟨(Lib.trimSuffix s.data.toList p.data.toList).toArray⟩, .bool (Lib.hasSuffix s.data.toList p.data.toList)]) ∧ w' = w := Any.strings_CutSuffix Tryz.lays104 s p w hs
def Tryz.laysM171_ren : Go.Shelf.Ren := ⟨fun | 171 => 107 | 243 => 166 | 246 => 233 | 283 => 276 | 284 => 277 | 285 => 278 | 286 => 279 | 129 => 222 | 317 => 304 | 318 => 305 | 319 => 306 | 320 => 307 | 337 => 318 | 338 => 319 | n => n, fun | 3 => 3 | 9 => 9 | 2 => 2 | 4 => 4 | 171 => 321 | 0 => 0 | 53 => 272 | 37 => 229 | 5 => 5 | 173 => 323 | 212 => 346 | 51 => 259 | 20 => 20 | 213 => 347 | 46 => 210 | 232 => 368 | 233 => 369 | n => n, fun | 17 => 3 | 18 => 8 | 19 => 9 | n => n⟩
theorem Tryz.laysM171 : Go.Proofs.LaysM.n171 Tryz.prog Tryz.laysM171_ren := {
  mixed := by kernel_rfl
  f129 := Tryz.func222.trans (congrArg some (by kernel_rfl))
  f171 := Tryz.func107.trans (congrArg some (by kernel_rfl))
  f243 := Tryz.func166.trans (congrArg some (by kernel_rfl))
  f246 := Tryz.func233.trans (congrArg some (by kernel_rfl))
  f283 := Tryz.func276.trans (congrArg some (by kernel_rfl))
  f284 := Tryz.func277.trans (congrArg some (by kernel_rfl))
  f285 := Tryz.func278.trans (congrArg some (by kernel_rfl))
  f286 := Tryz.func279.trans (congrArg some (by kernel_rfl))
  f317 := Tryz.func304.trans (congrArg some (by kernel_rfl))
  f318 := Tryz.func305.trans (congrArg some (by kernel_rfl))
  f319 := Tryz.func306.trans (congrArg some (by kernel_rfl))
  f320 := Tryz.func307.trans (congrArg some (by kernel_rfl))
  f337 := Tryz.func318.trans (congrArg some (by kernel_rfl))
  f338 := Tryz.func319.trans (congrArg some (by kernel_rfl))
  t0 := Tryz.underlying0
  a0 := Tryz.isAgg0
  z0 := Tryz.sizeOf0
  v0 := Tryz.zeroValue0
  t2 := Tryz.underlying2
  a2 := Tryz.isAgg2
  z2 := Tryz.sizeOf2
  v2 := Tryz.zeroValue2
  t3 := Tryz.underlying3
  a3 := Tryz.isAgg3
  z3 := Tryz.sizeOf3
  v3 := Tryz.zeroValue3
  t4 := Tryz.underlying4
  a4 := Tryz.isAgg4
  z4 := Tryz.sizeOf4
  v4 := Tryz.zeroValue4
  t5 := Tryz.underlying5
  a5 := Tryz.isAgg5
  z5 := Tryz.sizeOf5
  v5 := Tryz.zeroValue5
  t9 := Tryz.underlying9
  a9 := Tryz.isAgg9
  z9 := Tryz.sizeOf9
  v9 := Tryz.zeroValue9
  t20 := Tryz.underlying20
  a20 := Tryz.isAgg20
  z20 := Tryz.sizeOf20
  v20 := Tryz.zeroValue20
  t37 := Tryz.underlying229
  a37 := Tryz.isAgg229
  z37 := Tryz.sizeOf229
  v37 := Tryz.zeroValue229
  t46 := Tryz.underlying210
  a46 := Tryz.isAgg210
  z46 := Tryz.sizeOf210
  v46 := Tryz.zeroValue210
  t51 := Tryz.underlying259
  a51 := Tryz.isAgg259
  z51 := Tryz.sizeOf259
  v51 := Tryz.zeroValue259
  t53 := Tryz.underlying272
  a53 := Tryz.isAgg272
  z53 := Tryz.sizeOf272
  v53 := Tryz.zeroValue272
  t171 := Tryz.underlying321
  a171 := Tryz.isAgg321
  z171 := Tryz.sizeOf321
  v171 := Tryz.zeroValue321
  t173 := Tryz.underlying323
  a173 := Tryz.isAgg323
  z173 := Tryz.sizeOf323
  v173 := Tryz.zeroValue323
  t212 := Tryz.underlying346
  a212 := Tryz.isAgg346
  z212 := Tryz.sizeOf346
  v212 := Tryz.zeroValue346
  t213 := Tryz.underlying347
  a213 := Tryz.isAgg347
  z213 := Tryz.sizeOf347
  t232 := Tryz.underlying368
  a232 := Tryz.isAgg368
  z232 := Tryz.sizeOf368
  v232 := Tryz.zeroValue368
  t233 := Tryz.underlying369
  a233 := Tryz.isAgg369
  z233 := Tryz.sizeOf369
  v233 := Tryz.zeroValue369
  g17 := by kernel_rfl
  g18 := by kernel_rfl
  g19 := by kernel_rfl
  i0 := by kernel_rfl
  i2 := by kernel_rfl
  i3 := by kernel_rfl
  i4 := by kernel_rfl
  i5 := by kernel_rfl
  i9 := by kernel_rfl
  i20 := by kernel_rfl
  i37 := by kernel_rfl
  i46 := by kernel_rfl
  i51 := by kernel_rfl
  i53 := by kernel_rfl
  i171 := by kernel_rfl
  i173 := by kernel_rfl
  i212 := by kernel_rfl
  i232 := by kernel_rfl
  i233 := by kernel_rfl
  m17 := by kernel_rfl
  m18 := by kernel_rfl
  m19 := by kernel_rfl }
open Go.RowKit Go.Sort Go.Lib in
theorem Tryz.strconv_Itoa (n : Int) (h0 : -9223372036854775808 ≤ n) (h1 : n ≤ 9223372036854775807) (w : World) (htab : Lib.TabIs Tryz.prog w "internal/strconv.uint64pow10" .u64 Lib.pow10Tab) :
    Calls Tryz.prog 107 #[.int .i64 n] w fun e w' => e = .returned (.string ⟨(Lib.itoa n).toArray⟩) ∧ ∃ k os, w' = grow (w.drewN k) os := Any.strconv_Itoa Tryz.laysM171 n h0 h1 w htab
def Tryz.laysC172_ren : Go.Shelf.Ren := ⟨fun | 172 => 173 | 244 => 246 | 245 => 247 | 247 => 286 | 279 => 287 | 280 => 288 | 281 => 289 | 282 => 290 | 287 => 312 | 316 => 313 | 171 => 107 | 205 => 314 | 321 => 321 | 322 => 322 | 243 => 166 | 246 => 233 | 283 => 276 | 284 => 277 | 285 => 278 | 286 => 279 | 129 => 222 | 317 => 304 | 318 => 305 | 319 => 306 | 320 => 307 | 337 => 318 | 338 => 319 | n => n, fun | 9 => 9 | 3 => 3 | 75 => 226 | 76 => 227 | 4 => 4 | 5 => 5 | 167 => 328 | 37 => 229 | 0 => 0 | 85 => 329 | 2 => 2 | 168 => 331 | 53 => 272 | 175 => 349 | 46 => 210 | 210 => 353 | 127 => 357 | 145 => 364 | 143 => 362 | 21 => 21 | 171 => 321 | 173 => 323 | 212 => 346 | 51 => 259 | 20 => 20 | 213 => 347 | 232 => 368 | 233 => 369 | 80 => 344 | n => n, fun | 15 => 4 | 16 => 5 | 17 => 3 | 18 => 8 | 19 => 9 | n => n⟩
theorem Tryz.laysC172 : Go.Proofs.LaysC.n172 Tryz.prog Tryz.laysC172_ren := {
  mixed := by kernel_rfl
  f129 := Tryz.func222.trans (congrArg some (by kernel_rfl))
  f171 := Tryz.func107.trans (congrArg some (by kernel_rfl))
  f172 := Tryz.func173.trans (congrArg some (by kernel_rfl))
  f205 := Tryz.func314.trans (congrArg some (by kernel_rfl))
  f243 := Tryz.func166.trans (congrArg some (by kernel_rfl))
  f244 := Tryz.func246.trans (congrArg some (by kernel_rfl))
  f245 := Tryz.func247.trans (congrArg some (by kernel_rfl))
  f246 := Tryz.func233.trans (congrArg some (by kernel_rfl))
  f247 := Tryz.func286.trans (congrArg some (by kernel_rfl))
  f279 := Tryz.func287.trans (congrArg some (by kernel_rfl))
  f280 := Tryz.func288.trans (congrArg some (by kernel_rfl))
  f281 := Tryz.func289.trans (congrArg some (by kernel_rfl))
  f282 := Tryz.func290.trans (congrArg some (by kernel_rfl))
  f283 := Tryz.func276.trans (congrArg some (by kernel_rfl))
  f284 := Tryz.func277.trans (congrArg some (by kernel_rfl))
  f285 := Tryz.func278.trans (congrArg some (by kernel_rfl))
  f286 := Tryz.func279.trans (congrArg some (by kernel_rfl))
  f287 := Tryz.func312.trans (congrArg some (by kernel_rfl))
  f316 := Tryz.func313.trans (congrArg some (by kernel_rfl))
  f317 := Tryz.func304.trans (congrArg some (by kernel_rfl))
  f318 := Tryz.func305.trans (congrArg some (by kernel_rfl))
  f319 := Tryz.func306.trans (congrArg some (by kernel_rfl))
  f320 := Tryz.func307.trans (congrArg some (by kernel_rfl))
  f321 := Tryz.func321.trans (congrArg some (by kernel_rfl))
  f322 := Tryz.func322.trans (congrArg some (by kernel_rfl))
  f337 := Tryz.func318.trans (congrArg some (by kernel_rfl))
  f338 := Tryz.func319.trans (congrArg some (by kernel_rfl))
  t0 := Tryz.underlying0
  a0 := Tryz.isAgg0
  z0 := Tryz.sizeOf0
  v0 := Tryz.zeroValue0
  t2 := Tryz.underlying2
  a2 := Tryz.isAgg2
  z2 := Tryz.sizeOf2
  v2 := Tryz.zeroValue2
  t3 := Tryz.underlying3
  a3 := Tryz.isAgg3
  z3 := Tryz.sizeOf3
  v3 := Tryz.zeroValue3
  t4 := Tryz.underlying4
  a4 := Tryz.isAgg4
  z4 := Tryz.sizeOf4
  v4 := Tryz.zeroValue4
  t5 := Tryz.underlying5
  a5 := Tryz.isAgg5
  z5 := Tryz.sizeOf5
  v5 := Tryz.zeroValue5
  t9 := Tryz.underlying9
  a9 := Tryz.isAgg9
  z9 := Tryz.sizeOf9
  v9 := Tryz.zeroValue9
  t20 := Tryz.underlying20
  a20 := Tryz.isAgg20
  z20 := Tryz.sizeOf20
  v20 := Tryz.zeroValue20
  t21 := Tryz.underlying21
  a21 := Tryz.isAgg21
  z21 := Tryz.sizeOf21
  v21 := Tryz.zeroValue21
  t37 := Tryz.underlying229
  a37 := Tryz.isAgg229
  z37 := Tryz.sizeOf229
  v37 := Tryz.zeroValue229
  t46 := Tryz.underlying210
  a46 := Tryz.isAgg210
  z46 := Tryz.sizeOf210
  v46 := Tryz.zeroValue210
  t51 := Tryz.underlying259
  a51 := Tryz.isAgg259
  z51 := Tryz.sizeOf259
  v51 := Tryz.zeroValue259
  t53 := Tryz.underlying272
  a53 := Tryz.isAgg272
  z53 := Tryz.sizeOf272
  v53 := Tryz.zeroValue272
  t75 := Tryz.underlying226
  a75 := Tryz.isAgg226
  z75 := Tryz.sizeOf226
  v75 := Tryz.zeroValue226
  t76 := Tryz.underlying227
  a76 := Tryz.isAgg227
  z76 := Tryz.sizeOf227
  v76 := Tryz.zeroValue227
  t85 := Tryz.underlying329
  a85 := Tryz.isAgg329
  z85 := Tryz.sizeOf329
  v85 := Tryz.zeroValue329
  t127 := Tryz.underlying357
  a127 := Tryz.isAgg357
  z127 := Tryz.sizeOf357
  v127 := Tryz.zeroValue357
  t143 := Tryz.underlying362
  a143 := Tryz.isAgg362
  z143 := Tryz.sizeOf362
  v143 := Tryz.zeroValue362
  t145 := Tryz.underlying364
  a145 := Tryz.isAgg364
  z145 := Tryz.sizeOf364
  v145 := Tryz.zeroValue364
  t167 := Tryz.underlying328
  a167 := Tryz.isAgg328
  z167 := Tryz.sizeOf328
  v167 := Tryz.zeroValue328
  t168 := Tryz.underlying331
  a168 := Tryz.isAgg331
  z168 := Tryz.sizeOf331
  v168 := Tryz.zeroValue331
  t171 := Tryz.underlying321
  a171 := Tryz.isAgg321
  z171 := Tryz.sizeOf321
  v171 := Tryz.zeroValue321
  t173 := Tryz.underlying323
  a173 := Tryz.isAgg323
  z173 := Tryz.sizeOf323
  v173 := Tryz.zeroValue323
  t175 := Tryz.underlying349
  a175 := Tryz.isAgg349
  z175 := Tryz.sizeOf349
  v175 := Tryz.zeroValue349
  t210 := Tryz.underlying353
  a210 := Tryz.isAgg353
  z210 := Tryz.sizeOf353
  v210 := Tryz.zeroValue353
  t212 := Tryz.underlying346
  a212 := Tryz.isAgg346
  z212 := Tryz.sizeOf346
  v212 := Tryz.zeroValue346
  t213 := Tryz.underlying347
  a213 := Tryz.isAgg347
  z213 := Tryz.sizeOf347
  t232 := Tryz.underlying368
  a232 := Tryz.isAgg368
  z232 := Tryz.sizeOf368
  v232 := Tryz.zeroValue368
  t233 := Tryz.underlying369
  a233 := Tryz.isAgg369
  z233 := Tryz.sizeOf369
  v233 := Tryz.zeroValue369
  g15 := by kernel_rfl
  g16 := by kernel_rfl
  g17 := by kernel_rfl
  g18 := by kernel_rfl
  g19 := by kernel_rfl
  t80 := Tryz.underlying344
  a80 := Tryz.isAgg344
  z80 := Tryz.sizeOf344
  v80 := Tryz.zeroValue344
  i0 := by kernel_rfl
  i2 := by kernel_rfl
  i3 := by kernel_rfl
  i4 := by kernel_rfl
  i5 := by kernel_rfl
  i9 := by kernel_rfl
  i20 := by kernel_rfl
  i21 := by kernel_rfl
  i37 := by kernel_rfl
  i46 := by kernel_rfl
  i51 := by kernel_rfl
  i53 := by kernel_rfl
  i75 := by kernel_rfl
  i76 := by kernel_rfl
  i80 := by kernel_rfl
  i85 := by kernel_rfl
  i127 := by kernel_rfl
  i143 := by kernel_rfl
  i145 := by kernel_rfl
  i167 := by kernel_rfl
  i168 := by kernel_rfl
  i171 := by kernel_rfl
  i173 := by kernel_rfl
  i175 := by kernel_rfl
  i210 := by kernel_rfl
  i212 := by kernel_rfl
  i232 := by kernel_rfl
  i233 := by kernel_rfl
  m15 := by kernel_rfl
  m16 := by kernel_rfl
  m17 := by kernel_rfl
  m18 := by kernel_rfl
  m19 := by kernel_rfl
  c0 := by kernel_rfl
  c2 := by kernel_rfl
  c3 := by kernel_rfl
  c4 := by kernel_rfl
  c5 := by kernel_rfl
  c9 := by kernel_rfl
  c20 := by kernel_rfl
  c21 := by kernel_rfl
  c37 := by kernel_rfl
  c46 := by kernel_rfl
  c51 := by kernel_rfl
  c53 := by kernel_rfl
  c75 := by kernel_rfl
  c76 := by kernel_rfl
  c80 := by kernel_rfl
  c85 := by kernel_rfl
  c127 := by kernel_rfl
  c143 := by kernel_rfl
  c145 := by kernel_rfl
  c167 := by kernel_rfl
  c168 := by kernel_rfl
  c171 := by kernel_rfl
  c173 := by kernel_rfl
  c175 := by kernel_rfl
  c210 := by kernel_rfl
  c212 := by kernel_rfl
  c213 := by kernel_rfl
  c232 := by kernel_rfl
  c233 := by kernel_rfl }
open Go.RowKit in
theorem Tryz.strconv_Atoi_ok (s : ByteArray) (hmax : s.size ≤ 9223372036854775806) (v : Int) (h : Lib.atoiAll s.data.toList = .ok v) (w : World) :
    Calls Tryz.prog 173 #[.string s] w fun e w' => e = .returned (.tuple #[.int .i64 v, .nilIface]) ∧ (w' = w ∨ ∃ t, w' = Lib.bytesWorld w 5 t) := Any.strconv_Atoi_ok Tryz.laysC172 s hmax v h w
open Go.RowKit in
theorem Tryz.strconv_Atoi_syntax (s : ByteArray) (hlim : s.size ≤ 281474976710656) (h : Lib.atoiAll s.data.toList =Lib.atoiAll []) (ev : Value) (w : World) (hv : w.cell? ⟨4, 0, none⟩ = some ev) (hev : ev = .nilIface ∨ ∃ te pe, ev = .iface te pe) :
    Calls Tryz.prog 173 #[.string s] w fun e w' => ∃ N, e = .returned (.tuple #[.int .i64 (0), .iface 331 (.pointer (some ⟨N, 0, none⟩))]) ∧ w.heap.size ≤ N ∧ w'.heap[N]? = some (.cells #[.string ⟨#[65, 116, 111, 105]⟩, .string s, ev] 353 (0, 0)) ∧ Below w.heap.size w w' := Any.strconv_Atoi_syntax Tryz.laysC172 s hlim h ev w hv hev
open Go.RowKit in
theorem Tryz.strconv_Atoi_range (s : ByteArray) (hlim : s.size ≤ 281474976710656) (h : Lib.atoiAll s.data.toList = .range) (ev : Value) (w : World) (hv : w.cell? ⟨5, 0, none⟩ = some ev) (hev : ev = .nilIface ∨ ∃ te pe, ev = .iface te pe) :
    Calls Tryz.prog 173 #[.string s] w fun e w' => ∃ N, e = .returned (.tuple #[.int .i64 (Lib.atoiSat s.data.toList), .iface 331 (.pointer (some ⟨N, 0, none⟩))]) ∧ w.heap.size ≤ N ∧ w'.heap[N]? = some (.cells #[.string ⟨#[65, 116, 111, 105]⟩, .string s, ev] 353 (0, 0)) ∧ Below w.heap.size w w' := Any.strconv_Atoi_range Tryz.laysC172 s hlim h ev w hv hev
def Tryz.lays145_ren : Go.Shelf.Ren := ⟨fun | 145 => 160 | 220 => 224 | 219 => 264 | 217 => 234 | 225 => 294 | 224 => 295 | 267 => 296 | 266 => 280 | 314 => 315 | n => n, fun | 9 => 9 | 4 => 4 | 59 => 212 | 3 => 3 | 5 => 5 | 46 => 210 | 146 => 355 | 51 => 259 | n => n, fun | 1 => 2 | n => n⟩
theorem Tryz.lays145 : Go.Proofs.Lays.n145 Tryz.prog Tryz.lays145_ren := {
  mixed := by kernel_rfl
  f145 := Tryz.func160.trans (congrArg some (by kernel_rfl))
  f217 := Tryz.func234.trans (congrArg some (by kernel_rfl))
  f219 := Tryz.func264.trans (congrArg some (by kernel_rfl))
  f220 := Tryz.func224.trans (congrArg some (by kernel_rfl))
  f224 := Tryz.func295.trans (congrArg some (by kernel_rfl))
  f225 := Tryz.func294.trans (congrArg some (by kernel_rfl))
  f266 := Tryz.func280.trans (congrArg some (by kernel_rfl))
  f267 := Tryz.func296.trans (congrArg some (by kernel_rfl))
  f314 := Tryz.func315.trans (congrArg some (by kernel_rfl))
  t3 := Tryz.underlying3
  a3 := Tryz.isAgg3
  z3 := Tryz.sizeOf3
  v3 := Tryz.zeroValue3
  t4 := Tryz.underlying4
  a4 := Tryz.isAgg4
  z4 := Tryz.sizeOf4
  v4 := Tryz.zeroValue4
  t5 := Tryz.underlying5
  a5 := Tryz.isAgg5
  z5 := Tryz.sizeOf5
  v5 := Tryz.zeroValue5
  t9 := Tryz.underlying9
  a9 := Tryz.isAgg9
  z9 := Tryz.sizeOf9
  v9 := Tryz.zeroValue9
  t46 := Tryz.underlying210
  a46 := Tryz.isAgg210
  z46 := Tryz.sizeOf210
  v46 := Tryz.zeroValue210
  t51 := Tryz.underlying259
  a51 := Tryz.isAgg259
  z51 := Tryz.sizeOf259
  v51 := Tryz.zeroValue259
  t59 := Tryz.underlying212
  a59 := Tryz.isAgg212
  z59 := Tryz.sizeOf212
  v59 := Tryz.zeroValue212
  t146 := Tryz.underlying355
  a146 := Tryz.isAgg355
  z146 := Tryz.sizeOf355
  v146 := Tryz.zeroValue355
  g1 := by kernel_rfl }
open Go.RowKit Go.Lib in
theorem Tryz.strings_Cut (s sep : ByteArray) (m : Int) (w : World) (hs : s.size < 4294967281) (hm : w.cell? ⟨2, 0, none⟩ = some (.int .i64 m)) :
    Calls Tryz.prog 160 #[.string s, .string sep] w fun e w' => e = .returned (.tuple #[.string ⟨(Lib.cut s.data.toList sep.data.toList).1.toArray⟩, .string ⟨(Lib.cut s.data.toList sep.data.toList).2.1.toArray⟩, .bool (Lib.cut s.data.toList sep.data.toList).2.2]) ∧ ∃ n, w' = w.drewN n := Any.strings_Cut Tryz.lays145 s sep m w hs hm
def Tryz.lays190_ren : Go.Shelf.Ren := ⟨fun | 190 => 104 | 125 => 158 | 258 => 157 | 128 => 221 | 129 => 222 | 302 => 212 | 303 => 213 | 304 => 214 | 305 => 215 | 306 => 216 | 307 => 217 | 308 => 218 | 309 => 219 | 310 => 220 | 333 => 258 | 329 => 259 | 330 => 260 | 334 => 261 | 335 => 262 | 336 => 263 | 344 => 293 | n => n, fun | 31 => 78 | 9 => 9 | 3 => 3 | 46 => 210 | 0 => 0 | 51 => 259 | 53 => 272 | 4 => 4 | 183 => 264 | 182 => 263 | 131 => 268 | 5 => 5 | 218 => 309 | 222 => 313 | 228 => 336 | 229 => 337 | n => n, fun | n => n⟩
theorem Tryz.lays190 : Go.Proofs.Lays.n190 Tryz.prog Tryz.lays190_ren := {
  mixed := by kernel_rfl
  f125 := Tryz.func158.trans (congrArg some (by kernel_rfl))
  f128 := Tryz.func221.trans (congrArg some (by kernel_rfl))
  f129 := Tryz.func222.trans (congrArg some (by kernel_rfl))
  f190 := Tryz.func104.trans (congrArg some (by kernel_rfl))
  f258 := Tryz.func157.trans (congrArg some (by kernel_rfl))
  f302 := Tryz.func212.trans (congrArg some (by kernel_rfl))
  f303 := Tryz.func213.trans (congrArg some (by kernel_rfl))
  f304 := Tryz.func214.trans (congrArg some (by kernel_rfl))
  f305 := Tryz.func215.trans (congrArg some (by kernel_rfl))
  f306 := Tryz.func216.trans (congrArg some (by kernel_rfl))
  f307 := Tryz.func217.trans (congrArg some (by kernel_rfl))
  f308 := Tryz.func218.trans (congrArg some (by kernel_rfl))
  f309 := Tryz.func219.trans (congrArg some (by kernel_rfl))
  f310 := Tryz.func220.trans (congrArg some (by kernel_rfl))
  f329 := Tryz.func259.trans (congrArg some (by kernel_rfl))
  f330 := Tryz.func260.trans (congrArg some (by kernel_rfl))
  f333 := Tryz.func258.trans (congrArg some (by kernel_rfl))
  f334 := Tryz.func261.trans (congrArg some (by kernel_rfl))
  f335 := Tryz.func262.trans (congrArg some (by kernel_rfl))
  f336 := Tryz.func263.trans (congrArg some (by kernel_rfl))
  f344 := Tryz.func293.trans (congrArg some (by kernel_rfl))
  t0 := Tryz.underlying0
  a0 := Tryz.isAgg0
  z0 := Tryz.sizeOf0
  v0 := Tryz.zeroValue0
  t3 := Tryz.underlying3
  a3 := Tryz.isAgg3
  z3 := Tryz.sizeOf3
  v3 := Tryz.zeroValue3
  t4 := Tryz.underlying4
  a4 := Tryz.isAgg4
  z4 := Tryz.sizeOf4
  v4 := Tryz.zeroValue4
  t5 := Tryz.underlying5
  a5 := Tryz.isAgg5
  z5 := Tryz.sizeOf5
  v5 := Tryz.zeroValue5
  t9 := Tryz.underlying9
  a9 := Tryz.isAgg9
  z9 := Tryz.sizeOf9
  v9 := Tryz.zeroValue9
  t31 := Tryz.underlying78
  a31 := Tryz.isAgg78
  z31 := Tryz.sizeOf78
  v31 := Tryz.zeroValue78
  t46 := Tryz.underlying210
  a46 := Tryz.isAgg210
  z46 := Tryz.sizeOf210
  v46 := Tryz.zeroValue210
  t51 := Tryz.underlying259
  a51 := Tryz.isAgg259
  z51 := Tryz.sizeOf259
  v51 := Tryz.zeroValue259
  t53 := Tryz.underlying272
  a53 := Tryz.isAgg272
  z53 := Tryz.sizeOf272
  v53 := Tryz.zeroValue272
  t131 := Tryz.underlying268
  a131 := Tryz.isAgg268
  z131 := Tryz.sizeOf268
  v131 := Tryz.zeroValue268
  t182 := Tryz.underlying263
  a182 := Tryz.isAgg263
  z182 := Tryz.sizeOf263
  v182 := Tryz.zeroValue263
  t183 := Tryz.underlying264
  a183 := Tryz.isAgg264
  z183 := Tryz.sizeOf264
  v183 := Tryz.zeroValue264
  t218 := Tryz.underlying309
  a218 := Tryz.isAgg309
  z218 := Tryz.sizeOf309
  v218 := Tryz.zeroValue309
  t222 := Tryz.underlying313
  a222 := Tryz.isAgg313
  z222 := Tryz.sizeOf313
  v222 := Tryz.zeroValue313
  t228 := Tryz.underlying336
  a228 := Tryz.isAgg336
  z228 := Tryz.sizeOf336
  v228 := Tryz.zeroValue336
  t229 := Tryz.underlying337
  a229 := Tryz.isAgg337
  z229 := Tryz.sizeOf337
  v229 := Tryz.zeroValue337 }
open Go.Sort Go.RowKit in
theorem Tryz.slices_Sort_string (blk off cap : Nat) (ss : List (List UInt8)) (w : World) (hH : Holds encStr w blk off ss.toArray) (hblk : blk < w.heap.size) (hsz : ss.length < 4611686018427387904) :
    Calls Tryz.prog 104 #[.slice (some ⟨blk, off, none⟩) ss.length cap] w fun e w' =>
      e = .returned (.tuple #[]) ∧ ∃ n os, w' = grow (putRow encStr (Sort.ahead w n) blk off (ss.mergeSort fun x y => decide (x ≤ y)).toArray) os := Any.slices_Sort_string Tryz.lays190 blk off cap ss w hH hblk hsz
def Tryz.lays99_ren : Go.Shelf.Ren := ⟨fun | 99 => 172 | 206 => 245 | n => n, fun | 9 => 9 | 4 => 4 | 3 => 3 | n => n, fun | n => n⟩
theorem Tryz.lays99 : Go.Proofs.Lays.n99 Tryz.prog Tryz.lays99_ren := {
  mixed := by kernel_rfl
  f99 := Tryz.func172.trans (congrArg some (by kernel_rfl))
  f206 := Tryz.func245.trans (congrArg some (by kernel_rfl))
  t3 := Tryz.underlying3
  a3 := Tryz.isAgg3
  z3 := Tryz.sizeOf3
  v3 := Tryz.zeroValue3
  t4 := Tryz.underlying4
  a4 := Tryz.isAgg4
  z4 := Tryz.sizeOf4
  v4 := Tryz.zeroValue4
  t9 := Tryz.underlying9
  a9 := Tryz.isAgg9
  z9 := Tryz.sizeOf9
  v9 := Tryz.zeroValue9 }
open Go.RowKit Go.Lib in
theorem Tryz.strings_HasPrefix (s p : ByteArray) (w : World) :
    Calls Tryz.prog 172 #[.string s, .string p] w fun e w' => e = .returned (.bool (Lib.hasPrefix s.data.toList p.data.toList)) ∧ w' = w := Any.strings_HasPrefix Tryz.lays99 s p w
def Tryz.lays102_ren : Go.Shelf.Ren := ⟨fun | 102 => 275 | 209 => 303 | 207 => 308 | n => n, fun | 9 => 9 | 4 => 4 | 3 => 3 | n => n, fun | n => n⟩
theorem Tryz.lays102 : Go.Proofs.Lays.n102 Tryz.prog Tryz.lays102_ren := {
  mixed := by kernel_rfl
  f102 := Tryz.func275.trans (congrArg some (by kernel_rfl))
  f207 := Tryz.func308.trans (congrArg some (by kernel_rfl))
  f209 := Tryz.func303.trans (congrArg some (by kernel_rfl))
  t3 := Tryz.underlying3
  a3 := Tryz.isAgg3
  z3 := Tryz.sizeOf3
  v3 := Tryz.zeroValue3
  t4 := Tryz.underlying4
  a4 := Tryz.isAgg4
  z4 := Tryz.sizeOf4
  v4 := Tryz.zeroValue4
  t9 := Tryz.underlying9
  a9 := Tryz.isAgg9
  z9 := Tryz.sizeOf9
  v9 := Tryz.zeroValue9 }
open Go.RowKit Go.Lib in
theorem Tryz.strings_TrimSuffix (s p : ByteArray) (w : World) (hs : s.size ≤ 9223372036854775807) :
    Calls Tryz.prog 275 #[.string s, .string p] w fun e w' => e = .returned (.string ⟨(Lib.trimSuffix s.data.toList p.data.toList).toArray⟩) ∧ w' = w := Any.strings_TrimSuffix Tryz.lays102 s p w hs
def Tryz.lays146_ren : Go.Shelf.Ren := ⟨fun | 146 => 163 | 221 => 226 | 268 => 265 | 138 => 266 | 143 => 267 | 195 => 297 | 197 => 283 | 218 => 298 | 219 => 264 | 260 => 309 | 217 => 234 | 225 => 294 | 224 => 295 | 267 => 296 | 266 => 280 | 314 => 315 | n => n, fun | 9 => 9 | 31 => 78 | 3 => 3 | 4 => 4 | 0 => 0 | 105 => 325 | 21 => 21 | 5 => 5 | 46 => 210 | 119 => 205 | 139 => 360 | 138 => 359 | 146 => 355 | 51 => 259 | n => n, fun | 1 => 2 | 3 => 6 | 4 => 7 | n => n⟩
theorem Tryz.lays146 : Go.Proofs.Lays.n146 Tryz.prog Tryz.lays146_ren := {
  mixed := by kernel_rfl
  f138 := Tryz.func266.trans (congrArg some (by kernel_rfl))
  f143 := Tryz.func267.trans (congrArg some (by kernel_rfl))
  f146 := Tryz.func163.trans (congrArg some (by kernel_rfl))
  f195 := Tryz.func297.trans (congrArg some (by kernel_rfl))
  f197 := Tryz.func283.trans (congrArg some (by kernel_rfl))
  f217 := Tryz.func234.trans (congrArg some (by kernel_rfl))
  f218 := Tryz.func298.trans (congrArg some (by kernel_rfl))
  f219 := Tryz.func264.trans (congrArg some (by kernel_rfl))
  f221 := Tryz.func226.trans (congrArg some (by kernel_rfl))
  f224 := Tryz.func295.trans (congrArg some (by kernel_rfl))
  f225 := Tryz.func294.trans (congrArg some (by kernel_rfl))
  f260 := Tryz.func309.trans (congrArg some (by kernel_rfl))
  f266 := Tryz.func280.trans (congrArg some (by kernel_rfl))
  f267 := Tryz.func296.trans (congrArg some (by kernel_rfl))
  f268 := Tryz.func265.trans (congrArg some (by kernel_rfl))
  f314 := Tryz.func315.trans (congrArg some (by kernel_rfl))
  t0 := Tryz.underlying0
  a0 := Tryz.isAgg0
  z0 := Tryz.sizeOf0
  v0 := Tryz.zeroValue0
  t3 := Tryz.underlying3
  a3 := Tryz.isAgg3
  z3 := Tryz.sizeOf3
  v3 := Tryz.zeroValue3
  t4 := Tryz.underlying4
  a4 := Tryz.isAgg4
  z4 := Tryz.sizeOf4
  v4 := Tryz.zeroValue4
  t5 := Tryz.underlying5
  a5 := Tryz.isAgg5
  z5 := Tryz.sizeOf5
  v5 := Tryz.zeroValue5
  t9 := Tryz.underlying9
  a9 := Tryz.isAgg9
  z9 := Tryz.sizeOf9
  v9 := Tryz.zeroValue9
  t21 := Tryz.underlying21
  a21 := Tryz.isAgg21
  z21 := Tryz.sizeOf21
  v21 := Tryz.zeroValue21
  t31 := Tryz.underlying78
  a31 := Tryz.isAgg78
  z31 := Tryz.sizeOf78
  v31 := Tryz.zeroValue78
  t46 := Tryz.underlying210
  a46 := Tryz.isAgg210
  z46 := Tryz.sizeOf210
  v46 := Tryz.zeroValue210
  t51 := Tryz.underlying259
  a51 := Tryz.isAgg259
  z51 := Tryz.sizeOf259
  v51 := Tryz.zeroValue259
  t105 := Tryz.underlying325
  a105 := Tryz.isAgg325
  z105 := Tryz.sizeOf325
  v105 := Tryz.zeroValue325
  t119 := Tryz.underlying205
  a119 := Tryz.isAgg205
  z119 := Tryz.sizeOf205
  t138 := Tryz.underlying359
  a138 := Tryz.isAgg359
  z138 := Tryz.sizeOf359
  v138 := Tryz.zeroValue359
  t139 := Tryz.underlying360
  a139 := Tryz.isAgg360
  z139 := Tryz.sizeOf360
  v139 := Tryz.zeroValue360
  t146 := Tryz.underlying355
  a146 := Tryz.isAgg355
  z146 := Tryz.sizeOf355
  v146 := Tryz.zeroValue355
  g1 := by kernel_rfl
  g3 := by kernel_rfl
  g4 := by kernel_rfl }
open Go.RowKit Go.Lib in
theorem Tryz.strings_Split (s sep : ByteArray) (m : Int) (w : World) (hs : s.size < 4294967281) (hm : w.cell? ⟨2, 0, none⟩ = some (.int .i64 m)) (h1 : 1 ≤ sep.size) :
    Calls Tryz.prog 163 #[.string s, .string sep] w fun e w' =>
      e = .returned (.slice (some ⟨w.heap.size, 0, none⟩) (Lib.countB s sep + 1) (Lib.countB s sep + 1)) ∧ w' = w.alloc (.cells ((Lib.splitB sep 0 (Lib.countB s sep) s).map Value.string).toArray 9) := Any.strings_Split Tryz.lays146 (by kernel_rfl) s sep m w hs hm h1
end Go.Proofs
