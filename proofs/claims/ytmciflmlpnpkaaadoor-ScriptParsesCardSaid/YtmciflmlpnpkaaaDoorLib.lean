/-
  THE LIBRARY's CONTRACTS AT THIS DUMP, IN PLAIN WORDS: cut by program (wip/mkshelf2.py) out of what the shelf's own plain mode writes.
-/
import Derived.Shelf.Strings.Builder1
import Derived.Shelf.Strings.Builder2
import Derived.Shelf.Strings.OnBuilder
import Derived.Shelf.Small.Strs
import Derived.Shelf.Strings.BuilderF
import Derived.Shelf.Utf8.RuneCount
import Derived.Shelf.Strings.Builder2Cap
import Derived.Shelf.Strconv.Atoi
import Derived.Shelf.Strconv.Itoa0
import Derived.Shelf.Strconv.Itoa1
import Derived.Shelf.LaysM
import Derived.Shelf.Strconv.Itoa2
import Derived.Shelf.Strconv.Itoa3
import Derived.Shelf.Strconv.AtoiErrFast
import Derived.Shelf.Strconv.ParseIntEmpty
import Derived.Shelf.Strconv.AtoiFail
import Derived.Shelf.Strconv.Clone
import Derived.Shelf.Strconv.SyntaxError
import Derived.Shelf.LaysC
import Derived.Shelf.Strconv.ToError
import Derived.Shelf.Strconv.Lower
import Derived.Shelf.Strconv.ParseUint10
import Derived.Shelf.Strconv.ParseUint10Empty
import Derived.Shelf.Strconv.ParseUint10Any
import Derived.Shelf.Strconv.ParseInt10
import Derived.Shelf.Strconv.AtoiLong
import Derived.Shelf.Strconv.AtoiInnerAll
import Derived.Shelf.Strconv.RangeError
import Derived.Shelf.Strconv.ToErrorRange
import Derived.Shelf.Strconv.AtoiAll
import Derived.Shelf.Strconv.ParseUintEmpty
import Derived.Shelf.Strconv.ParseUint10b64
import Derived.Shelf.Strconv.ParseUint10b32
import Derived.Shelf.Strconv.ParseUint10b16
import Derived.Shelf.Strings.Search1
import Derived.Shelf.Strings.Search2
import Derived.Shelf.Strings.Search3
import Derived.Shelf.Strings.Cut
import Derived.Shelf.Strings.Count
import Derived.Shelf.Strings.Shaped
import Derived.Shelf.Strings.Prefix
import Derived.Shelf.Strings.Split
import Derived.Shelf.Strings.Fields
import Derived.Shelf.Strings.SplitShaped
import Derived.Shelf.Unicode.Latin
import Derived.Shelf.Unicode.Decode
import Derived.Shelf.Strings.RuneCount
import Derived.Shelf.Strings.Explode
import Derived.Shelf.Bits.Mul64
import Derived.Shelf.Strings.Repeat
import Derived.Shelf.Unicode.DecodeSlow
import Derived.Shelf.Unicode.DecodeAny
import Derived.Shelf.Unicode.Is16White
import Derived.Shelf.Unicode.IsSpaceAny
import Derived.Shelf.Strings.FieldsFuncAny
import Derived.Shelf.Unicode.Is16Any
import Derived.Shelf.Unicode.Is32Any
import Derived.Shelf.Unicode.ExclAny
import Derived.Shelf.Slices.Turned
import Derived.Shelf.Slices.Equal
import Derived.Shelf.Slices.Empties2
import Derived.Test.YtmciflmlpnpkaaaDoorProg
namespace Go.Proofs
open Go.Shelf
def Tryd.lays156_ren : Go.Shelf.Ren := ⟨fun | 156 => 68 | 165 => 28 | 166 => 29 | 169 => 31 | 240 => 55 | 241 => 56 | 276 => 75 | 277 => 76 | n => n, fun | 31 => 34 | 9 => 9 | 3 => 3 | 4 => 4 | 0 => 0 | 20 => 20 | 72 => 60 | 76 => 64 | 70 => 58 | 37 => 51 | 75 => 63 | 127 => 94 | 164 => 105 | 5 => 5 | 80 => 67 | n => n, fun | n => n⟩
theorem Tryd.lays156 : Go.Proofs.Lays.n156 Tryd.prog Tryd.lays156_ren := {
  mixed := by kernel_rfl
  f156 := Tryd.func68.trans (congrArg some (by kernel_rfl))
  f165 := Tryd.func28.trans (congrArg some (by kernel_rfl))
  f166 := Tryd.func29.trans (congrArg some (by kernel_rfl))
  f169 := Tryd.func31.trans (congrArg some (by kernel_rfl))
  f240 := Tryd.func55.trans (congrArg some (by kernel_rfl))
  f241 := Tryd.func56.trans (congrArg some (by kernel_rfl))
  f276 := Tryd.func75.trans (congrArg some (by kernel_rfl))
  f277 := Tryd.func76.trans (congrArg some (by kernel_rfl))
  t0 := Tryd.underlying0
  a0 := Tryd.isAgg0
  z0 := Tryd.sizeOf0
  v0 := Tryd.zeroValue0
  t3 := Tryd.underlying3
  a3 := Tryd.isAgg3
  z3 := Tryd.sizeOf3
  v3 := Tryd.zeroValue3
  t4 := Tryd.underlying4
  a4 := Tryd.isAgg4
  z4 := Tryd.sizeOf4
  v4 := Tryd.zeroValue4
  t9 := Tryd.underlying9
  a9 := Tryd.isAgg9
  z9 := Tryd.sizeOf9
  v9 := Tryd.zeroValue9
  t20 := Tryd.underlying20
  a20 := Tryd.isAgg20
  z20 := Tryd.sizeOf20
  v20 := Tryd.zeroValue20
  t31 := Tryd.underlying34
  a31 := Tryd.isAgg34
  z31 := Tryd.sizeOf34
  v31 := Tryd.zeroValue34
  t37 := Tryd.underlying51
  a37 := Tryd.isAgg51
  z37 := Tryd.sizeOf51
  v37 := Tryd.zeroValue51
  t70 := Tryd.underlying58
  a70 := Tryd.isAgg58
  z70 := Tryd.sizeOf58
  v70 := Tryd.zeroValue58
  t72 := Tryd.underlying60
  a72 := Tryd.isAgg60
  z72 := Tryd.sizeOf60
  v72 := Tryd.zeroValue60
  t75 := Tryd.underlying63
  a75 := Tryd.isAgg63
  z75 := Tryd.sizeOf63
  v75 := Tryd.zeroValue63
  t76 := Tryd.underlying64
  a76 := Tryd.isAgg64
  z76 := Tryd.sizeOf64
  v76 := Tryd.zeroValue64
  t127 := Tryd.underlying94
  a127 := Tryd.isAgg94
  z127 := Tryd.sizeOf94
  v127 := Tryd.zeroValue94
  t164 := Tryd.underlying105
  a164 := Tryd.isAgg105
  z164 := Tryd.sizeOf105
  v164 := Tryd.zeroValue105 }
theorem Tryd.Builder_Extra_156 : Builder.Extra Tryd.prog Tryd.lays156_ren := {
  sizeBuilder := by kernel_rfl
  liesBuilder := by kernel_rfl
  t5 := Tryd.underlying5
  a5 := Tryd.isAgg5
  z5 := Tryd.sizeOf5
  v5 := Tryd.zeroValue5
  infoByte := by kernel_rfl
  cellsByte := by kernel_rfl
  sizeByte := by kernel_rfl
  neB5 := by decide }
open Go.RowKit in
/-- strings.Join: "Join concatenates the elements of its first argument to create a single string. The separator string sep is placed between elements in the resulting string.": HOWEVER MANY ELEMENTS. Below the heap's end the world is as it was. (LAID: no walk: one application.) -/
theorem Tryd.strings_Join (bk o c : Nat) (xs : List ByteArray) (sep : ByteArray) (w : World) (hcells : ∀ (j : Nat) x, xs[j]? = some x → w.cell? ⟨bk, o + j, none⟩ = some (.string x)) (hbk : bk < w.heap.size) (hN : xs.length ≤ 140737488355328) (hcap : xs.length ≤ c) (hlen : (Lib.join (xs.map (·.data.toList)) sep.data.toList).length ≤ 140737488355328) :
    Calls Tryd.prog 68 #[.slice (some ⟨bk, o, none⟩) xs.length c, .string sep] w fun e w' => e = .returned (.string ⟨(Lib.join (xs.map (·.data.toList)) sep.data.toList).toArray⟩) ∧ Below w.heap.size w w' := Any.strings_Join Tryd.lays156 Tryd.Builder_Extra_156 bk o c xs sep w hcells hbk hN hcap hlen
def Tryd.lays137_ren : Go.Shelf.Ren := ⟨fun | 137 => 51 | 217 => 74 | 266 => 95 | n => n, fun | 9 => 9 | 5 => 5 | 3 => 3 | n => n, fun | n => n⟩
theorem Tryd.lays137 : Go.Proofs.Lays.n137 Tryd.prog Tryd.lays137_ren := {
  mixed := by kernel_rfl
  f137 := Tryd.func51.trans (congrArg some (by kernel_rfl))
  f217 := Tryd.func74.trans (congrArg some (by kernel_rfl))
  f266 := Tryd.func95.trans (congrArg some (by kernel_rfl))
  t3 := Tryd.underlying3
  a3 := Tryd.isAgg3
  z3 := Tryd.sizeOf3
  v3 := Tryd.zeroValue3
  t5 := Tryd.underlying5
  a5 := Tryd.isAgg5
  z5 := Tryd.sizeOf5
  v5 := Tryd.zeroValue5
  t9 := Tryd.underlying9
  a9 := Tryd.isAgg9
  z9 := Tryd.sizeOf9
  v9 := Tryd.zeroValue9 }
open Go.RowKit in
/-- strings.IndexByte: "IndexByte returns the index of the first instance of c in s, or -1 if c is not present in s.": IT RETURNS 'Lib.indexByte s c'; the world is as it was. (LAID: no walk: one application.) -/
theorem Tryd.strings_IndexByte (s : ByteArray) (c : Int) (w : World) :
    Calls Tryd.prog 51 #[.string s, .int .u8 c] w fun e w' => e = .returned (.int .i64 (Lib.indexByte s.data.toList c.toNat.toUInt8)) ∧ w' = w := Any.strings_IndexByte Tryd.lays137 s c w
def Tryd.laysM171_ren : Go.Shelf.Ren := ⟨fun | 171 => 67 | 243 => 83 | 246 => 101 | 283 => 111 | 284 => 112 | 285 => 113 | 286 => 114 | 129 => 120 | 317 => 119 | 318 => 121 | 319 => 122 | 320 => 123 | 337 => 128 | 338 => 129 | n => n, fun | 3 => 3 | 9 => 9 | 2 => 2 | 4 => 4 | 171 => 128 | 0 => 0 | 53 => 91 | 37 => 51 | 5 => 5 | 173 => 131 | 212 => 147 | 51 => 88 | 20 => 20 | 213 => 148 | 46 => 55 | 232 => 169 | 233 => 170 | n => n, fun | 17 => 8 | 18 => 9 | 19 => 10 | n => n⟩
theorem Tryd.laysM171 : Go.Proofs.LaysM.n171 Tryd.prog Tryd.laysM171_ren := {
  mixed := by kernel_rfl
  f129 := Tryd.func120.trans (congrArg some (by kernel_rfl))
  f171 := Tryd.func67.trans (congrArg some (by kernel_rfl))
  f243 := Tryd.func83.trans (congrArg some (by kernel_rfl))
  f246 := Tryd.func101.trans (congrArg some (by kernel_rfl))
  f283 := Tryd.func111.trans (congrArg some (by kernel_rfl))
  f284 := Tryd.func112.trans (congrArg some (by kernel_rfl))
  f285 := Tryd.func113.trans (congrArg some (by kernel_rfl))
  f286 := Tryd.func114.trans (congrArg some (by kernel_rfl))
  f317 := Tryd.func119.trans (congrArg some (by kernel_rfl))
  f318 := Tryd.func121.trans (congrArg some (by kernel_rfl))
  f319 := Tryd.func122.trans (congrArg some (by kernel_rfl))
  f320 := Tryd.func123.trans (congrArg some (by kernel_rfl))
  f337 := Tryd.func128.trans (congrArg some (by kernel_rfl))
  f338 := Tryd.func129.trans (congrArg some (by kernel_rfl))
  t0 := Tryd.underlying0
  a0 := Tryd.isAgg0
  z0 := Tryd.sizeOf0
  v0 := Tryd.zeroValue0
  t2 := Tryd.underlying2
  a2 := Tryd.isAgg2
  z2 := Tryd.sizeOf2
  v2 := Tryd.zeroValue2
  t3 := Tryd.underlying3
  a3 := Tryd.isAgg3
  z3 := Tryd.sizeOf3
  v3 := Tryd.zeroValue3
  t4 := Tryd.underlying4
  a4 := Tryd.isAgg4
  z4 := Tryd.sizeOf4
  v4 := Tryd.zeroValue4
  t5 := Tryd.underlying5
  a5 := Tryd.isAgg5
  z5 := Tryd.sizeOf5
  v5 := Tryd.zeroValue5
  t9 := Tryd.underlying9
  a9 := Tryd.isAgg9
  z9 := Tryd.sizeOf9
  v9 := Tryd.zeroValue9
  t20 := Tryd.underlying20
  a20 := Tryd.isAgg20
  z20 := Tryd.sizeOf20
  v20 := Tryd.zeroValue20
  t37 := Tryd.underlying51
  a37 := Tryd.isAgg51
  z37 := Tryd.sizeOf51
  v37 := Tryd.zeroValue51
  t46 := Tryd.underlying55
  a46 := Tryd.isAgg55
  z46 := Tryd.sizeOf55
  v46 := Tryd.zeroValue55
  t51 := Tryd.underlying88
  a51 := Tryd.isAgg88
  z51 := Tryd.sizeOf88
  v51 := Tryd.zeroValue88
  t53 := Tryd.underlying91
  a53 := Tryd.isAgg91
  z53 := Tryd.sizeOf91
  v53 := Tryd.zeroValue91
  t171 := Tryd.underlying128
  a171 := Tryd.isAgg128
  z171 := Tryd.sizeOf128
  v171 := Tryd.zeroValue128
  t173 := Tryd.underlying131
  a173 := Tryd.isAgg131
  z173 := Tryd.sizeOf131
  v173 := Tryd.zeroValue131
  t212 := Tryd.underlying147
  a212 := Tryd.isAgg147
  z212 := Tryd.sizeOf147
  v212 := Tryd.zeroValue147
  t213 := Tryd.underlying148
  a213 := Tryd.isAgg148
  z213 := Tryd.sizeOf148
  t232 := Tryd.underlying169
  a232 := Tryd.isAgg169
  z232 := Tryd.sizeOf169
  v232 := Tryd.zeroValue169
  t233 := Tryd.underlying170
  a233 := Tryd.isAgg170
  z233 := Tryd.sizeOf170
  v233 := Tryd.zeroValue170
  g17 := by kernel_rfl
  g18 := by kernel_rfl
  g19 := by kernel_rfl
  i0 := by kernel_rfl
  i2 := by kernel_rfl
  i3 := by kernel_rfl
  i4 := by kernel_rfl
  i5 := by kernel_rfl
  i9 := by kernel_rfl
  i20 := by kernel_rfl
  i37 := by kernel_rfl
  i46 := by kernel_rfl
  i51 := by kernel_rfl
  i53 := by kernel_rfl
  i171 := by kernel_rfl
  i173 := by kernel_rfl
  i212 := by kernel_rfl
  i232 := by kernel_rfl
  i233 := by kernel_rfl
  m17 := by kernel_rfl
  m18 := by kernel_rfl
  m19 := by kernel_rfl }
open Go.RowKit Go.Sort Go.Lib in
/-- strconv.Itoa: "Itoa is equivalent to FormatInt(int64(i), 10).": i's DECIMAL NUMERAL ('Lib.itoa': a '-' where i is negative, then the digits), FOR EVERY int. The world behind the call: the world before it, new blocks behind the heap (the library's 'var a [24]byte'), draws. (LAID: no walk: one application.) -/
theorem Tryd.strconv_Itoa (n : Int) (h0 : -9223372036854775808 ≤ n) (h1 : n ≤ 9223372036854775807) (w : World) (htab : Lib.TabIs Tryd.prog w "internal/strconv.uint64pow10" .u64 Lib.pow10Tab) :
    Calls Tryd.prog 67 #[.int .i64 n] w fun e w' => e = .returned (.string ⟨(Lib.itoa n).toArray⟩) ∧ ∃ k os, w' = grow (w.drewN k) os := Any.strconv_Itoa Tryd.laysM171 n h0 h1 w htab
def Tryd.laysC172_ren : Go.Shelf.Ren := ⟨fun | 172 => 73 | 244 => 93 | 245 => 94 | 247 => 106 | 279 => 107 | 280 => 108 | 281 => 109 | 282 => 110 | 287 => 116 | 316 => 117 | 171 => 67 | 205 => 118 | 321 => 126 | 322 => 127 | 243 => 83 | 246 => 101 | 283 => 111 | 284 => 112 | 285 => 113 | 286 => 114 | 129 => 120 | 317 => 119 | 318 => 121 | 319 => 122 | 320 => 123 | 337 => 128 | 338 => 129 | n => n, fun | 9 => 9 | 3 => 3 | 75 => 63 | 76 => 64 | 4 => 4 | 5 => 5 | 167 => 122 | 37 => 51 | 0 => 0 | 85 => 123 | 2 => 2 | 168 => 125 | 53 => 91 | 175 => 141 | 46 => 55 | 210 => 144 | 127 => 94 | 145 => 165 | 143 => 163 | 21 => 21 | 171 => 128 | 173 => 131 | 212 => 147 | 51 => 88 | 20 => 20 | 213 => 148 | 232 => 169 | 233 => 170 | 80 => 67 | n => n, fun | 15 => 6 | 16 => 7 | 17 => 8 | 18 => 9 | 19 => 10 | n => n⟩
theorem Tryd.laysC172 : Go.Proofs.LaysC.n172 Tryd.prog Tryd.laysC172_ren := {
  mixed := by kernel_rfl
  f129 := Tryd.func120.trans (congrArg some (by kernel_rfl))
  f171 := Tryd.func67.trans (congrArg some (by kernel_rfl))
  f172 := Tryd.func73.trans (congrArg some (by kernel_rfl))
  f205 := Tryd.func118.trans (congrArg some (by kernel_rfl))
  f243 := Tryd.func83.trans (congrArg some (by kernel_rfl))
  f244 := Tryd.func93.trans (congrArg some (by kernel_rfl))
  f245 := Tryd.func94.trans (congrArg some (by kernel_rfl))
  f246 := Tryd.func101.trans (congrArg some (by kernel_rfl))
  f247 := Tryd.func106.trans (congrArg some (by kernel_rfl))
  f279 := Tryd.func107.trans (congrArg some (by kernel_rfl))
  f280 := Tryd.func108.trans (congrArg some (by kernel_rfl))
  f281 := Tryd.func109.trans (congrArg some (by kernel_rfl))
  f282 := Tryd.func110.trans (congrArg some (by kernel_rfl))
  f283 := Tryd.func111.trans (congrArg some (by kernel_rfl))
  f284 := Tryd.func112.trans (congrArg some (by kernel_rfl))
  f285 := Tryd.func113.trans (congrArg some (by kernel_rfl))
  f286 := Tryd.func114.trans (congrArg some (by kernel_rfl))
  f287 := Tryd.func116.trans (congrArg some (by kernel_rfl))
  f316 := Tryd.func117.trans (congrArg some (by kernel_rfl))
  f317 := Tryd.func119.trans (congrArg some (by kernel_rfl))
  f318 := Tryd.func121.trans (congrArg some (by kernel_rfl))
  f319 := Tryd.func122.trans (congrArg some (by kernel_rfl))
  f320 := Tryd.func123.trans (congrArg some (by kernel_rfl))
  f321 := Tryd.func126.trans (congrArg some (by kernel_rfl))
  f322 := Tryd.func127.trans (congrArg some (by kernel_rfl))
  f337 := Tryd.func128.trans (congrArg some (by kernel_rfl))
  f338 := Tryd.func129.trans (congrArg some (by kernel_rfl))
  t0 := Tryd.underlying0
  a0 := Tryd.isAgg0
  z0 := Tryd.sizeOf0
  v0 := Tryd.zeroValue0
  t2 := Tryd.underlying2
  a2 := Tryd.isAgg2
  z2 := Tryd.sizeOf2
  v2 := Tryd.zeroValue2
  t3 := Tryd.underlying3
  a3 := Tryd.isAgg3
  z3 := Tryd.sizeOf3
  v3 := Tryd.zeroValue3
  t4 := Tryd.underlying4
  a4 := Tryd.isAgg4
  z4 := Tryd.sizeOf4
  v4 := Tryd.zeroValue4
  t5 := Tryd.underlying5
  a5 := Tryd.isAgg5
  z5 := Tryd.sizeOf5
  v5 := Tryd.zeroValue5
  t9 := Tryd.underlying9
  a9 := Tryd.isAgg9
  z9 := Tryd.sizeOf9
  v9 := Tryd.zeroValue9
  t20 := Tryd.underlying20
  a20 := Tryd.isAgg20
  z20 := Tryd.sizeOf20
  v20 := Tryd.zeroValue20
  t21 := Tryd.underlying21
  a21 := Tryd.isAgg21
  z21 := Tryd.sizeOf21
  v21 := Tryd.zeroValue21
  t37 := Tryd.underlying51
  a37 := Tryd.isAgg51
  z37 := Tryd.sizeOf51
  v37 := Tryd.zeroValue51
  t46 := Tryd.underlying55
  a46 := Tryd.isAgg55
  z46 := Tryd.sizeOf55
  v46 := Tryd.zeroValue55
  t51 := Tryd.underlying88
  a51 := Tryd.isAgg88
  z51 := Tryd.sizeOf88
  v51 := Tryd.zeroValue88
  t53 := Tryd.underlying91
  a53 := Tryd.isAgg91
  z53 := Tryd.sizeOf91
  v53 := Tryd.zeroValue91
  t75 := Tryd.underlying63
  a75 := Tryd.isAgg63
  z75 := Tryd.sizeOf63
  v75 := Tryd.zeroValue63
  t76 := Tryd.underlying64
  a76 := Tryd.isAgg64
  z76 := Tryd.sizeOf64
  v76 := Tryd.zeroValue64
  t85 := Tryd.underlying123
  a85 := Tryd.isAgg123
  z85 := Tryd.sizeOf123
  v85 := Tryd.zeroValue123
  t127 := Tryd.underlying94
  a127 := Tryd.isAgg94
  z127 := Tryd.sizeOf94
  v127 := Tryd.zeroValue94
  t143 := Tryd.underlying163
  a143 := Tryd.isAgg163
  z143 := Tryd.sizeOf163
  v143 := Tryd.zeroValue163
  t145 := Tryd.underlying165
  a145 := Tryd.isAgg165
  z145 := Tryd.sizeOf165
  v145 := Tryd.zeroValue165
  t167 := Tryd.underlying122
  a167 := Tryd.isAgg122
  z167 := Tryd.sizeOf122
  v167 := Tryd.zeroValue122
  t168 := Tryd.underlying125
  a168 := Tryd.isAgg125
  z168 := Tryd.sizeOf125
  v168 := Tryd.zeroValue125
  t171 := Tryd.underlying128
  a171 := Tryd.isAgg128
  z171 := Tryd.sizeOf128
  v171 := Tryd.zeroValue128
  t173 := Tryd.underlying131
  a173 := Tryd.isAgg131
  z173 := Tryd.sizeOf131
  v173 := Tryd.zeroValue131
  t175 := Tryd.underlying141
  a175 := Tryd.isAgg141
  z175 := Tryd.sizeOf141
  v175 := Tryd.zeroValue141
  t210 := Tryd.underlying144
  a210 := Tryd.isAgg144
  z210 := Tryd.sizeOf144
  v210 := Tryd.zeroValue144
  t212 := Tryd.underlying147
  a212 := Tryd.isAgg147
  z212 := Tryd.sizeOf147
  v212 := Tryd.zeroValue147
  t213 := Tryd.underlying148
  a213 := Tryd.isAgg148
  z213 := Tryd.sizeOf148
  t232 := Tryd.underlying169
  a232 := Tryd.isAgg169
  z232 := Tryd.sizeOf169
  v232 := Tryd.zeroValue169
  t233 := Tryd.underlying170
  a233 := Tryd.isAgg170
  z233 := Tryd.sizeOf170
  v233 := Tryd.zeroValue170
  g15 := by kernel_rfl
  g16 := by kernel_rfl
  g17 := by kernel_rfl
  g18 := by kernel_rfl
  g19 := by kernel_rfl
  t80 := Tryd.underlying67
  a80 := Tryd.isAgg67
  z80 := Tryd.sizeOf67
  v80 := Tryd.zeroValue67
  i0 := by kernel_rfl
  i2 := by kernel_rfl
  i3 := by kernel_rfl
  i4 := by kernel_rfl
  i5 := by kernel_rfl
  i9 := by kernel_rfl
  i20 := by kernel_rfl
  i21 := by kernel_rfl
  i37 := by kernel_rfl
  i46 := by kernel_rfl
  i51 := by kernel_rfl
  i53 := by kernel_rfl
  i75 := by kernel_rfl
  i76 := by kernel_rfl
  i80 := by kernel_rfl
  i85 := by kernel_rfl
  i127 := by kernel_rfl
  i143 := by kernel_rfl
  i145 := by kernel_rfl
  i167 := by kernel_rfl
  i168 := by kernel_rfl
  i171 := by kernel_rfl
  i173 := by kernel_rfl
  i175 := by kernel_rfl
  i210 := by kernel_rfl
  i212 := by kernel_rfl
  i232 := by kernel_rfl
  i233 := by kernel_rfl
  m15 := by kernel_rfl
  m16 := by kernel_rfl
  m17 := by kernel_rfl
  m18 := by kernel_rfl
  m19 := by kernel_rfl
  c0 := by kernel_rfl
  c2 := by kernel_rfl
  c3 := by kernel_rfl
  c4 := by kernel_rfl
  c5 := by kernel_rfl
  c9 := by kernel_rfl
  c20 := by kernel_rfl
  c21 := by kernel_rfl
  c37 := by kernel_rfl
  c46 := by kernel_rfl
  c51 := by kernel_rfl
  c53 := by kernel_rfl
  c75 := by kernel_rfl
  c76 := by kernel_rfl
  c80 := by kernel_rfl
  c85 := by kernel_rfl
  c127 := by kernel_rfl
  c143 := by kernel_rfl
  c145 := by kernel_rfl
  c167 := by kernel_rfl
  c168 := by kernel_rfl
  c171 := by kernel_rfl
  c173 := by kernel_rfl
  c175 := by kernel_rfl
  c210 := by kernel_rfl
  c212 := by kernel_rfl
  c213 := by kernel_rfl
  c232 := by kernel_rfl
  c233 := by kernel_rfl }
open Go.RowKit in
/-- strconv.Atoi, AT EVERY STRING THAT SPELLS AN int ('Lib.atoiAll .. = .ok v'; of whatever length: leading zeros count): v, AND NO ERROR. The world: as it was, or with the one new row that '[]byte(..)' lays. (LAID: no walk: one application.) -/
theorem Tryd.strconv_Atoi_ok (s : ByteArray) (hmax : s.size ≤ 9223372036854775806) (v : Int) (h : Lib.atoiAll s.data.toList = .ok v) (w : World) :
    Calls Tryd.prog 73 #[.string s] w fun e w' => e = .returned (.tuple #[.int .i64 v, .nilIface]) ∧ (w' = w ∨ ∃ t, w' = Lib.bytesWorld w 5 t) := Any.strconv_Atoi_ok Tryd.laysC172 s hmax v h w
open Go.RowKit in
/-- strconv.Atoi, AT EVERY NUMERAL THAT NO int HOLDS ('.range'): THE GREATEST OR THE LEAST int, BY THE SIGN ('Lib.atoiSat'), AND AN ERROR THAT IS NOT nil: a *NumError in a new block N: {Func: "Atoi", Num: s's bytes, Err: what the variable ErrRange holds}. Of what was there nothing has turned. (LAID: no walk: one application.) -/
theorem Tryd.strconv_Atoi_range (s : ByteArray) (hlim : s.size ≤ 281474976710656) (h : Lib.atoiAll s.data.toList = .range) (ev : Value) (w : World) (hv : w.cell? ⟨7, 0, none⟩ = some ev) (hev : ev = .nilIface ∨ ∃ te pe, ev = .iface te pe) :
    Calls Tryd.prog 73 #[.string s] w fun e w' => ∃ N, e = .returned (.tuple #[.int .i64 (Lib.atoiSat s.data.toList), .iface 125 (.pointer (some ⟨N, 0, none⟩))]) ∧ w.heap.size ≤ N ∧ w'.heap[N]? = some (.cells #[.string ⟨#[65, 116, 111, 105]⟩, .string s, ev] 144 (0, 0)) ∧ Below w.heap.size w w' := Any.strconv_Atoi_range Tryd.laysC172 s hlim h ev w hv hev
def Tryd.lays145_ren : Go.Shelf.Ren := ⟨fun | 145 => 15 | 220 => 35 | 219 => 59 | 217 => 74 | 225 => 77 | 224 => 78 | 267 => 79 | 266 => 95 | 314 => 96 | n => n, fun | 9 => 9 | 4 => 4 | 59 => 38 | 3 => 3 | 5 => 5 | 46 => 55 | 146 => 89 | 51 => 88 | n => n, fun | 1 => 1 | n => n⟩
theorem Tryd.lays145 : Go.Proofs.Lays.n145 Tryd.prog Tryd.lays145_ren := {
  mixed := by kernel_rfl
  f145 := Tryd.func15.trans (congrArg some (by kernel_rfl))
  f217 := Tryd.func74.trans (congrArg some (by kernel_rfl))
  f219 := Tryd.func59.trans (congrArg some (by kernel_rfl))
  f220 := Tryd.func35.trans (congrArg some (by kernel_rfl))
  f224 := Tryd.func78.trans (congrArg some (by kernel_rfl))
  f225 := Tryd.func77.trans (congrArg some (by kernel_rfl))
  f266 := Tryd.func95.trans (congrArg some (by kernel_rfl))
  f267 := Tryd.func79.trans (congrArg some (by kernel_rfl))
  f314 := Tryd.func96.trans (congrArg some (by kernel_rfl))
  t3 := Tryd.underlying3
  a3 := Tryd.isAgg3
  z3 := Tryd.sizeOf3
  v3 := Tryd.zeroValue3
  t4 := Tryd.underlying4
  a4 := Tryd.isAgg4
  z4 := Tryd.sizeOf4
  v4 := Tryd.zeroValue4
  t5 := Tryd.underlying5
  a5 := Tryd.isAgg5
  z5 := Tryd.sizeOf5
  v5 := Tryd.zeroValue5
  t9 := Tryd.underlying9
  a9 := Tryd.isAgg9
  z9 := Tryd.sizeOf9
  v9 := Tryd.zeroValue9
  t46 := Tryd.underlying55
  a46 := Tryd.isAgg55
  z46 := Tryd.sizeOf55
  v46 := Tryd.zeroValue55
  t51 := Tryd.underlying88
  a51 := Tryd.isAgg88
  z51 := Tryd.sizeOf88
  v51 := Tryd.zeroValue88
  t59 := Tryd.underlying38
  a59 := Tryd.isAgg38
  z59 := Tryd.sizeOf38
  v59 := Tryd.zeroValue38
  t146 := Tryd.underlying89
  a146 := Tryd.isAgg89
  z146 := Tryd.sizeOf89
  v146 := Tryd.zeroValue89
  g1 := by kernel_rfl }
open Go.RowKit Go.Lib in
/-- strings.Cut: "Cut slices s around the first instance of sep, returning the text before and after sep. The found result reports whether sep appears in s. If sep does not appear in s, cut returns s, "", false.": IT RETURNS 'Lib.cut s sep'; the world is as it was but for the count of draws. (LAID: no walk: one application.) -/
theorem Tryd.strings_Cut (s sep : ByteArray) (m : Int) (w : World) (hs : s.size < 4294967281) (hm : w.cell? ⟨1, 0, none⟩ = some (.int .i64 m)) :
    Calls Tryd.prog 15 #[.string s, .string sep] w fun e w' => e = .returned (.tuple #[.string ⟨(Lib.cut s.data.toList sep.data.toList).1.toArray⟩, .string ⟨(Lib.cut s.data.toList sep.data.toList).2.1.toArray⟩, .bool (Lib.cut s.data.toList sep.data.toList).2.2]) ∧ ∃ n, w' = w.drewN n := Any.strings_Cut Tryd.lays145 s sep m w hs hm
def Tryd.lays138_ren : Go.Shelf.Ren := ⟨fun | 138 => 22 | 195 => 43 | 218 => 44 | 143 => 45 | 219 => 59 | 217 => 74 | 225 => 77 | 224 => 78 | 267 => 79 | 266 => 95 | 314 => 96 | n => n, fun | 9 => 9 | 3 => 3 | 4 => 4 | 5 => 5 | 0 => 0 | 46 => 55 | 146 => 89 | 51 => 88 | n => n, fun | 1 => 1 | n => n⟩
theorem Tryd.lays138 : Go.Proofs.Lays.n138 Tryd.prog Tryd.lays138_ren := {
  mixed := by kernel_rfl
  f138 := Tryd.func22.trans (congrArg some (by kernel_rfl))
  f143 := Tryd.func45.trans (congrArg some (by kernel_rfl))
  f195 := Tryd.func43.trans (congrArg some (by kernel_rfl))
  f217 := Tryd.func74.trans (congrArg some (by kernel_rfl))
  f218 := Tryd.func44.trans (congrArg some (by kernel_rfl))
  f219 := Tryd.func59.trans (congrArg some (by kernel_rfl))
  f224 := Tryd.func78.trans (congrArg some (by kernel_rfl))
  f225 := Tryd.func77.trans (congrArg some (by kernel_rfl))
  f266 := Tryd.func95.trans (congrArg some (by kernel_rfl))
  f267 := Tryd.func79.trans (congrArg some (by kernel_rfl))
  f314 := Tryd.func96.trans (congrArg some (by kernel_rfl))
  t0 := Tryd.underlying0
  a0 := Tryd.isAgg0
  z0 := Tryd.sizeOf0
  v0 := Tryd.zeroValue0
  t3 := Tryd.underlying3
  a3 := Tryd.isAgg3
  z3 := Tryd.sizeOf3
  v3 := Tryd.zeroValue3
  t4 := Tryd.underlying4
  a4 := Tryd.isAgg4
  z4 := Tryd.sizeOf4
  v4 := Tryd.zeroValue4
  t5 := Tryd.underlying5
  a5 := Tryd.isAgg5
  z5 := Tryd.sizeOf5
  v5 := Tryd.zeroValue5
  t9 := Tryd.underlying9
  a9 := Tryd.isAgg9
  z9 := Tryd.sizeOf9
  v9 := Tryd.zeroValue9
  t46 := Tryd.underlying55
  a46 := Tryd.isAgg55
  z46 := Tryd.sizeOf55
  v46 := Tryd.zeroValue55
  t51 := Tryd.underlying88
  a51 := Tryd.isAgg88
  z51 := Tryd.sizeOf88
  v51 := Tryd.zeroValue88
  t146 := Tryd.underlying89
  a146 := Tryd.isAgg89
  z146 := Tryd.sizeOf89
  v146 := Tryd.zeroValue89
  g1 := by kernel_rfl }
open Go.RowKit Go.Lib in
/-- strings.Count AT A substr OF ONE BYTE ('hp'): "Count counts the number of non-overlapping instances of substr in s.": IT RETURNS 'Lib.countByte s (that byte)'; the world is as it was. ✋ NO CONTRACT HERE YET at an empty substr (utf8.RuneCountInString) or at a longer one (a loop over strings.Index). (LAID: no walk: one application.) -/
theorem Tryd.strings_Count_one (s : ByteArray) (c : UInt8) (w : World) :
    Calls Tryd.prog 22 #[.string s, .string ⟨#[c]⟩] w fun e w' => e = .returned (.int .i64 (Lib.countByte s.data.toList c)) ∧ w' = w := Any.strings_Count_one Tryd.lays138 s c w
def Tryd.lays100_ren : Go.Shelf.Ren := ⟨fun | 100 => 20 | 207 => 41 | n => n, fun | 9 => 9 | 4 => 4 | 3 => 3 | n => n, fun | n => n⟩
theorem Tryd.lays100 : Go.Proofs.Lays.n100 Tryd.prog Tryd.lays100_ren := {
  mixed := by kernel_rfl
  f100 := Tryd.func20.trans (congrArg some (by kernel_rfl))
  f207 := Tryd.func41.trans (congrArg some (by kernel_rfl))
  t3 := Tryd.underlying3
  a3 := Tryd.isAgg3
  z3 := Tryd.sizeOf3
  v3 := Tryd.zeroValue3
  t4 := Tryd.underlying4
  a4 := Tryd.isAgg4
  z4 := Tryd.sizeOf4
  v4 := Tryd.zeroValue4
  t9 := Tryd.underlying9
  a9 := Tryd.isAgg9
  z9 := Tryd.sizeOf9
  v9 := Tryd.zeroValue9 }
open Go.RowKit Go.Lib in
/-- strings.HasSuffix: "HasSuffix reports whether the string s ends with suffix.": IT RETURNS 'Lib.hasSuffix s suffix'; the world is as it was. ('hs': no Go string is longer: a caller has it of every string that it was handed.) (LAID: no walk: one application.) -/
theorem Tryd.strings_HasSuffix (s p : ByteArray) (w : World) (hs : s.size ≤ 9223372036854775807) :
    Calls Tryd.prog 20 #[.string s, .string p] w fun e w' => e = .returned (.bool (Lib.hasSuffix s.data.toList p.data.toList)) ∧ w' = w := Any.strings_HasSuffix Tryd.lays100 s p w hs
def Tryd.lays101_ren : Go.Shelf.Ren := ⟨fun | 101 => 12 | 208 => 25 | 206 => 52 | n => n, fun | 9 => 9 | 4 => 4 | 3 => 3 | n => n, fun | n => n⟩
theorem Tryd.lays101 : Go.Proofs.Lays.n101 Tryd.prog Tryd.lays101_ren := {
  mixed := by kernel_rfl
  f101 := Tryd.func12.trans (congrArg some (by kernel_rfl))
  f206 := Tryd.func52.trans (congrArg some (by kernel_rfl))
  f208 := Tryd.func25.trans (congrArg some (by kernel_rfl))
  t3 := Tryd.underlying3
  a3 := Tryd.isAgg3
  z3 := Tryd.sizeOf3
  v3 := Tryd.zeroValue3
  t4 := Tryd.underlying4
  a4 := Tryd.isAgg4
  z4 := Tryd.sizeOf4
  v4 := Tryd.zeroValue4
  t9 := Tryd.underlying9
  a9 := Tryd.isAgg9
  z9 := Tryd.sizeOf9
  v9 := Tryd.zeroValue9 }
open Go.RowKit Go.Lib in
/-- strings.TrimPrefix: "TrimPrefix returns s without the provided leading prefix string. If s doesn't start with prefix, s is returned unchanged.": IT RETURNS 'Lib.trimPrefix s prefix'; the world is as it was. (LAID: no walk: one application.) -/
theorem Tryd.strings_TrimPrefix (s p : ByteArray) (w : World) :
    Calls Tryd.prog 12 #[.string s, .string p] w fun e w' => e = .returned (.string ⟨(Lib.trimPrefix s.data.toList p.data.toList).toArray⟩) ∧ w' = w := Any.strings_TrimPrefix Tryd.lays101 s p w
def Tryd.lays146_ren : Go.Shelf.Ren := ⟨fun | 146 => 46 | 221 => 42 | 268 => 69 | 138 => 22 | 143 => 45 | 195 => 43 | 197 => 84 | 218 => 44 | 219 => 59 | 260 => 102 | 217 => 74 | 225 => 77 | 224 => 78 | 267 => 79 | 266 => 95 | 314 => 96 | n => n, fun | 9 => 9 | 31 => 34 | 3 => 3 | 4 => 4 | 0 => 0 | 105 => 111 | 21 => 21 | 5 => 5 | 46 => 55 | 119 => 119 | 139 => 135 | 138 => 134 | 146 => 89 | 51 => 88 | n => n, fun | 1 => 1 | 3 => 3 | 4 => 4 | n => n⟩
theorem Tryd.lays146 : Go.Proofs.Lays.n146 Tryd.prog Tryd.lays146_ren := {
  mixed := by kernel_rfl
  f138 := Tryd.func22.trans (congrArg some (by kernel_rfl))
  f143 := Tryd.func45.trans (congrArg some (by kernel_rfl))
  f146 := Tryd.func46.trans (congrArg some (by kernel_rfl))
  f195 := Tryd.func43.trans (congrArg some (by kernel_rfl))
  f197 := Tryd.func84.trans (congrArg some (by kernel_rfl))
  f217 := Tryd.func74.trans (congrArg some (by kernel_rfl))
  f218 := Tryd.func44.trans (congrArg some (by kernel_rfl))
  f219 := Tryd.func59.trans (congrArg some (by kernel_rfl))
  f221 := Tryd.func42.trans (congrArg some (by kernel_rfl))
  f224 := Tryd.func78.trans (congrArg some (by kernel_rfl))
  f225 := Tryd.func77.trans (congrArg some (by kernel_rfl))
  f260 := Tryd.func102.trans (congrArg some (by kernel_rfl))
  f266 := Tryd.func95.trans (congrArg some (by kernel_rfl))
  f267 := Tryd.func79.trans (congrArg some (by kernel_rfl))
  f268 := Tryd.func69.trans (congrArg some (by kernel_rfl))
  f314 := Tryd.func96.trans (congrArg some (by kernel_rfl))
  t0 := Tryd.underlying0
  a0 := Tryd.isAgg0
  z0 := Tryd.sizeOf0
  v0 := Tryd.zeroValue0
  t3 := Tryd.underlying3
  a3 := Tryd.isAgg3
  z3 := Tryd.sizeOf3
  v3 := Tryd.zeroValue3
  t4 := Tryd.underlying4
  a4 := Tryd.isAgg4
  z4 := Tryd.sizeOf4
  v4 := Tryd.zeroValue4
  t5 := Tryd.underlying5
  a5 := Tryd.isAgg5
  z5 := Tryd.sizeOf5
  v5 := Tryd.zeroValue5
  t9 := Tryd.underlying9
  a9 := Tryd.isAgg9
  z9 := Tryd.sizeOf9
  v9 := Tryd.zeroValue9
  t21 := Tryd.underlying21
  a21 := Tryd.isAgg21
  z21 := Tryd.sizeOf21
  v21 := Tryd.zeroValue21
  t31 := Tryd.underlying34
  a31 := Tryd.isAgg34
  z31 := Tryd.sizeOf34
  v31 := Tryd.zeroValue34
  t46 := Tryd.underlying55
  a46 := Tryd.isAgg55
  z46 := Tryd.sizeOf55
  v46 := Tryd.zeroValue55
  t51 := Tryd.underlying88
  a51 := Tryd.isAgg88
  z51 := Tryd.sizeOf88
  v51 := Tryd.zeroValue88
  t105 := Tryd.underlying111
  a105 := Tryd.isAgg111
  z105 := Tryd.sizeOf111
  v105 := Tryd.zeroValue111
  t119 := Tryd.underlying119
  a119 := Tryd.isAgg119
  z119 := Tryd.sizeOf119
  t138 := Tryd.underlying134
  a138 := Tryd.isAgg134
  z138 := Tryd.sizeOf134
  v138 := Tryd.zeroValue134
  t139 := Tryd.underlying135
  a139 := Tryd.isAgg135
  z139 := Tryd.sizeOf135
  v139 := Tryd.zeroValue135
  t146 := Tryd.underlying89
  a146 := Tryd.isAgg89
  z146 := Tryd.sizeOf89
  v146 := Tryd.zeroValue89
  g1 := by kernel_rfl
  g3 := by kernel_rfl
  g4 := by kernel_rfl }
open Go.RowKit Go.Lib in
/-- strings.Split. (LAID: no walk: one application.) -/
theorem Tryd.strings_Split (s sep : ByteArray) (m : Int) (w : World) (hs : s.size < 4294967281) (hm : w.cell? ⟨1, 0, none⟩ = some (.int .i64 m)) (h1 : 1 ≤ sep.size) :
    Calls Tryd.prog 46 #[.string s, .string sep] w fun e w' =>
      e = .returned (.slice (some ⟨w.heap.size, 0, none⟩) (Lib.countB s sep + 1) (Lib.countB s sep + 1)) ∧ w' = w.alloc (.cells ((Lib.splitB sep 0 (Lib.countB s sep) s).map Value.string).toArray 9) := Any.strings_Split Tryd.lays146 (by kernel_rfl) s sep m w hs hm h1
def Tryd.lays147_ren : Go.Shelf.Ren := ⟨fun | 147 => 21 | 221 => 42 | 268 => 69 | 138 => 22 | 143 => 45 | 195 => 43 | 197 => 84 | 218 => 44 | 219 => 59 | 260 => 102 | 217 => 74 | 225 => 77 | 224 => 78 | 267 => 79 | 266 => 95 | 314 => 96 | n => n, fun | 9 => 9 | 3 => 3 | 31 => 34 | 4 => 4 | 0 => 0 | 105 => 111 | 21 => 21 | 5 => 5 | 46 => 55 | 119 => 119 | 139 => 135 | 138 => 134 | 146 => 89 | 51 => 88 | n => n, fun | 1 => 1 | 3 => 3 | 4 => 4 | n => n⟩
theorem Tryd.lays147 : Go.Proofs.Lays.n147 Tryd.prog Tryd.lays147_ren := {
  mixed := by kernel_rfl
  f138 := Tryd.func22.trans (congrArg some (by kernel_rfl))
  f143 := Tryd.func45.trans (congrArg some (by kernel_rfl))
  f147 := Tryd.func21.trans (congrArg some (by kernel_rfl))
  f195 := Tryd.func43.trans (congrArg some (by kernel_rfl))
  f197 := Tryd.func84.trans (congrArg some (by kernel_rfl))
  f217 := Tryd.func74.trans (congrArg some (by kernel_rfl))
  f218 := Tryd.func44.trans (congrArg some (by kernel_rfl))
  f219 := Tryd.func59.trans (congrArg some (by kernel_rfl))
  f221 := Tryd.func42.trans (congrArg some (by kernel_rfl))
  f224 := Tryd.func78.trans (congrArg some (by kernel_rfl))
  f225 := Tryd.func77.trans (congrArg some (by kernel_rfl))
  f260 := Tryd.func102.trans (congrArg some (by kernel_rfl))
  f266 := Tryd.func95.trans (congrArg some (by kernel_rfl))
  f267 := Tryd.func79.trans (congrArg some (by kernel_rfl))
  f268 := Tryd.func69.trans (congrArg some (by kernel_rfl))
  f314 := Tryd.func96.trans (congrArg some (by kernel_rfl))
  t0 := Tryd.underlying0
  a0 := Tryd.isAgg0
  z0 := Tryd.sizeOf0
  v0 := Tryd.zeroValue0
  t3 := Tryd.underlying3
  a3 := Tryd.isAgg3
  z3 := Tryd.sizeOf3
  v3 := Tryd.zeroValue3
  t4 := Tryd.underlying4
  a4 := Tryd.isAgg4
  z4 := Tryd.sizeOf4
  v4 := Tryd.zeroValue4
  t5 := Tryd.underlying5
  a5 := Tryd.isAgg5
  z5 := Tryd.sizeOf5
  v5 := Tryd.zeroValue5
  t9 := Tryd.underlying9
  a9 := Tryd.isAgg9
  z9 := Tryd.sizeOf9
  v9 := Tryd.zeroValue9
  t21 := Tryd.underlying21
  a21 := Tryd.isAgg21
  z21 := Tryd.sizeOf21
  v21 := Tryd.zeroValue21
  t31 := Tryd.underlying34
  a31 := Tryd.isAgg34
  z31 := Tryd.sizeOf34
  v31 := Tryd.zeroValue34
  t46 := Tryd.underlying55
  a46 := Tryd.isAgg55
  z46 := Tryd.sizeOf55
  v46 := Tryd.zeroValue55
  t51 := Tryd.underlying88
  a51 := Tryd.isAgg88
  z51 := Tryd.sizeOf88
  v51 := Tryd.zeroValue88
  t105 := Tryd.underlying111
  a105 := Tryd.isAgg111
  z105 := Tryd.sizeOf111
  v105 := Tryd.zeroValue111
  t119 := Tryd.underlying119
  a119 := Tryd.isAgg119
  z119 := Tryd.sizeOf119
  t138 := Tryd.underlying134
  a138 := Tryd.isAgg134
  z138 := Tryd.sizeOf134
  v138 := Tryd.zeroValue134
  t139 := Tryd.underlying135
  a139 := Tryd.isAgg135
  z139 := Tryd.sizeOf135
  v139 := Tryd.zeroValue135
  t146 := Tryd.underlying89
  a146 := Tryd.isAgg89
  z146 := Tryd.sizeOf89
  v146 := Tryd.zeroValue89
  g1 := by kernel_rfl
  g3 := by kernel_rfl
  g4 := by kernel_rfl }
open Go.RowKit Go.Lib in
/-- strings.SplitN, n > 0. (LAID: no walk: one application.) -/
theorem Tryd.strings_SplitN (s sep : ByteArray) (n : Nat) (m : Int) (w : World) (hs : s.size < 4294967281) (hm : w.cell? ⟨1, 0, none⟩ = some (.int .i64 m)) (h1 : 1 ≤ sep.size) (hn : 1 ≤ n) (hn63 : n ≤ 9223372036854775807) :
    Calls Tryd.prog 21 #[.string s, .string sep, .int .i64 n] w fun e w' =>
      e = .returned (.slice (some ⟨w.heap.size, 0, none⟩) (Lib.splitB sep 0 (min n (s.size + 1) - 1) s).length (min n (s.size + 1))) ∧ w' = w.alloc (.cells (Lib.cellsOf (Lib.splitB sep 0 (min n (s.size + 1) - 1) s) (min n (s.size + 1))) 9) := Any.strings_SplitN Tryd.lays147 (by kernel_rfl) s sep n m w hs hm h1 hn hn63
def Tryd.lays157_ren : Go.Shelf.Ren := ⟨fun | 157 => 86 | 229 => 104 | 199 => 105 | 261 => 115 | 311 => 124 | 312 => 125 | n => n, fun | 9 => 9 | 31 => 34 | 3 => 3 | 5 => 5 | 4 => 4 | 119 => 119 | 0 => 0 | 40 => 121 | 152 => 136 | 21 => 21 | 154 => 138 | 51 => 88 | 141 => 140 | 196 => 154 | 193 => 151 | 198 => 157 | 49 => 155 | 194 => 152 | 201 => 160 | 226 => 167 | 46 => 55 | 227 => 168 | n => n, fun | 0 => 2 | 6 => 5 | n => n⟩
theorem Tryd.lays157 : Go.Proofs.Lays.n157 Tryd.prog Tryd.lays157_ren := {
  mixed := by kernel_rfl
  f157 := Tryd.func86.trans (congrArg some (by kernel_rfl))
  f199 := Tryd.func105.trans (congrArg some (by kernel_rfl))
  f229 := Tryd.func104.trans (congrArg some (by kernel_rfl))
  f261 := Tryd.func115.trans (congrArg some (by kernel_rfl))
  f311 := Tryd.func124.trans (congrArg some (by kernel_rfl))
  f312 := Tryd.func125.trans (congrArg some (by kernel_rfl))
  t0 := Tryd.underlying0
  a0 := Tryd.isAgg0
  z0 := Tryd.sizeOf0
  v0 := Tryd.zeroValue0
  t3 := Tryd.underlying3
  a3 := Tryd.isAgg3
  z3 := Tryd.sizeOf3
  v3 := Tryd.zeroValue3
  t4 := Tryd.underlying4
  a4 := Tryd.isAgg4
  z4 := Tryd.sizeOf4
  v4 := Tryd.zeroValue4
  t5 := Tryd.underlying5
  a5 := Tryd.isAgg5
  z5 := Tryd.sizeOf5
  v5 := Tryd.zeroValue5
  t9 := Tryd.underlying9
  a9 := Tryd.isAgg9
  z9 := Tryd.sizeOf9
  v9 := Tryd.zeroValue9
  t21 := Tryd.underlying21
  a21 := Tryd.isAgg21
  z21 := Tryd.sizeOf21
  v21 := Tryd.zeroValue21
  t31 := Tryd.underlying34
  a31 := Tryd.isAgg34
  z31 := Tryd.sizeOf34
  v31 := Tryd.zeroValue34
  t40 := Tryd.underlying121
  a40 := Tryd.isAgg121
  z40 := Tryd.sizeOf121
  v40 := Tryd.zeroValue121
  t46 := Tryd.underlying55
  a46 := Tryd.isAgg55
  z46 := Tryd.sizeOf55
  v46 := Tryd.zeroValue55
  t49 := Tryd.underlying155
  a49 := Tryd.isAgg155
  z49 := Tryd.sizeOf155
  v49 := Tryd.zeroValue155
  t51 := Tryd.underlying88
  a51 := Tryd.isAgg88
  z51 := Tryd.sizeOf88
  v51 := Tryd.zeroValue88
  t119 := Tryd.underlying119
  a119 := Tryd.isAgg119
  z119 := Tryd.sizeOf119
  t141 := Tryd.underlying140
  a141 := Tryd.isAgg140
  z141 := Tryd.sizeOf140
  v141 := Tryd.zeroValue140
  t152 := Tryd.underlying136
  a152 := Tryd.isAgg136
  z152 := Tryd.sizeOf136
  v152 := Tryd.zeroValue136
  t154 := Tryd.underlying138
  a154 := Tryd.isAgg138
  z154 := Tryd.sizeOf138
  v154 := Tryd.zeroValue138
  t193 := Tryd.underlying151
  a193 := Tryd.isAgg151
  z193 := Tryd.sizeOf151
  v193 := Tryd.zeroValue151
  t194 := Tryd.underlying152
  a194 := Tryd.isAgg152
  z194 := Tryd.sizeOf152
  v194 := Tryd.zeroValue152
  t196 := Tryd.underlying154
  a196 := Tryd.isAgg154
  z196 := Tryd.sizeOf154
  v196 := Tryd.zeroValue154
  t198 := Tryd.underlying157
  a198 := Tryd.isAgg157
  z198 := Tryd.sizeOf157
  v198 := Tryd.zeroValue157
  t201 := Tryd.underlying160
  a201 := Tryd.isAgg160
  z201 := Tryd.sizeOf160
  v201 := Tryd.zeroValue160
  t226 := Tryd.underlying167
  a226 := Tryd.isAgg167
  z226 := Tryd.sizeOf167
  v226 := Tryd.zeroValue167
  t227 := Tryd.underlying168
  a227 := Tryd.isAgg168
  z227 := Tryd.sizeOf168
  v227 := Tryd.zeroValue168
  g0 := by kernel_rfl
  g6 := by kernel_rfl }
open Go.RowKit Go.Lib in
/-- strings.Fields, the table by 'Lib.TabIs' (as strings.TrimSpace's contract). 'hg': the table's number, by its name: at a dump 'by kernel_rfl'. (LAID: no walk: one application.) -/
theorem Tryd.strings_Fields (s : ByteArray) (w : World) (hs : s.size < 4294967281) (hascii : ∀ (j : Nat) b, s.data.toList[j]? = some b → b.toNat < 128) (htab : Lib.TabIs Tryd.prog w "strings.asciiSpace" .u8 Lib.asciiSpaceTab) :
    Calls Tryd.prog 86 #[.string s] w fun e w' =>
      e = .returned (.slice (some ⟨w.heap.size, 0, none⟩) (Lib.fields s.data.toList).length (Lib.fields s.data.toList).length) ∧ w' = w.alloc (.cells ((Lib.fields s.data.toList).map fun l => Value.string ⟨l.toArray⟩).toArray 9) := Any.strings_Fields Tryd.lays157 (by kernel_rfl) (by kernel_rfl) s w hs hascii htab
def Tryd.lays105_ren : Go.Shelf.Ren := ⟨fun | 105 => 13 | 212 => 26 | 99 => 27 | 165 => 28 | 166 => 29 | 170 => 30 | 169 => 31 | 263 => 53 | 264 => 54 | 206 => 52 | 240 => 55 | 241 => 56 | 276 => 75 | 277 => 76 | n => n, fun | 9 => 9 | 3 => 3 | 4 => 4 | 20 => 20 | 0 => 0 | 46 => 55 | 109 => 56 | 5 => 5 | 72 => 60 | 76 => 64 | 51 => 88 | 146 => 89 | 53 => 91 | 148 => 92 | 70 => 58 | 37 => 51 | 75 => 63 | 127 => 94 | 164 => 105 | 80 => 67 | n => n, fun | n => n⟩
theorem Tryd.lays105 : Go.Proofs.Lays.n105 Tryd.prog Tryd.lays105_ren := {
  mixed := by kernel_rfl
  f99 := Tryd.func27.trans (congrArg some (by kernel_rfl))
  f105 := Tryd.func13.trans (congrArg some (by kernel_rfl))
  f165 := Tryd.func28.trans (congrArg some (by kernel_rfl))
  f166 := Tryd.func29.trans (congrArg some (by kernel_rfl))
  f169 := Tryd.func31.trans (congrArg some (by kernel_rfl))
  f170 := Tryd.func30.trans (congrArg some (by kernel_rfl))
  f206 := Tryd.func52.trans (congrArg some (by kernel_rfl))
  f212 := Tryd.func26.trans (congrArg some (by kernel_rfl))
  f240 := Tryd.func55.trans (congrArg some (by kernel_rfl))
  f241 := Tryd.func56.trans (congrArg some (by kernel_rfl))
  f263 := Tryd.func53.trans (congrArg some (by kernel_rfl))
  f264 := Tryd.func54.trans (congrArg some (by kernel_rfl))
  f276 := Tryd.func75.trans (congrArg some (by kernel_rfl))
  f277 := Tryd.func76.trans (congrArg some (by kernel_rfl))
  t0 := Tryd.underlying0
  a0 := Tryd.isAgg0
  z0 := Tryd.sizeOf0
  v0 := Tryd.zeroValue0
  t3 := Tryd.underlying3
  a3 := Tryd.isAgg3
  z3 := Tryd.sizeOf3
  v3 := Tryd.zeroValue3
  t4 := Tryd.underlying4
  a4 := Tryd.isAgg4
  z4 := Tryd.sizeOf4
  v4 := Tryd.zeroValue4
  t5 := Tryd.underlying5
  a5 := Tryd.isAgg5
  z5 := Tryd.sizeOf5
  v5 := Tryd.zeroValue5
  t9 := Tryd.underlying9
  a9 := Tryd.isAgg9
  z9 := Tryd.sizeOf9
  v9 := Tryd.zeroValue9
  t20 := Tryd.underlying20
  a20 := Tryd.isAgg20
  z20 := Tryd.sizeOf20
  v20 := Tryd.zeroValue20
  t37 := Tryd.underlying51
  a37 := Tryd.isAgg51
  z37 := Tryd.sizeOf51
  v37 := Tryd.zeroValue51
  t46 := Tryd.underlying55
  a46 := Tryd.isAgg55
  z46 := Tryd.sizeOf55
  v46 := Tryd.zeroValue55
  t51 := Tryd.underlying88
  a51 := Tryd.isAgg88
  z51 := Tryd.sizeOf88
  v51 := Tryd.zeroValue88
  t53 := Tryd.underlying91
  a53 := Tryd.isAgg91
  z53 := Tryd.sizeOf91
  v53 := Tryd.zeroValue91
  t70 := Tryd.underlying58
  a70 := Tryd.isAgg58
  z70 := Tryd.sizeOf58
  v70 := Tryd.zeroValue58
  t72 := Tryd.underlying60
  a72 := Tryd.isAgg60
  z72 := Tryd.sizeOf60
  v72 := Tryd.zeroValue60
  t75 := Tryd.underlying63
  a75 := Tryd.isAgg63
  z75 := Tryd.sizeOf63
  v75 := Tryd.zeroValue63
  t76 := Tryd.underlying64
  a76 := Tryd.isAgg64
  z76 := Tryd.sizeOf64
  v76 := Tryd.zeroValue64
  t109 := Tryd.underlying56
  a109 := Tryd.isAgg56
  z109 := Tryd.sizeOf56
  v109 := Tryd.zeroValue56
  t127 := Tryd.underlying94
  a127 := Tryd.isAgg94
  z127 := Tryd.sizeOf94
  v127 := Tryd.zeroValue94
  t146 := Tryd.underlying89
  a146 := Tryd.isAgg89
  z146 := Tryd.sizeOf89
  v146 := Tryd.zeroValue89
  t148 := Tryd.underlying92
  a148 := Tryd.isAgg92
  z148 := Tryd.sizeOf92
  v148 := Tryd.zeroValue92
  t164 := Tryd.underlying105
  a164 := Tryd.isAgg105
  z164 := Tryd.sizeOf105
  v164 := Tryd.zeroValue105 }
theorem Tryd.Builder_Extra_105 : Builder.Extra Tryd.prog Tryd.lays105_ren := {
  sizeBuilder := by kernel_rfl
  liesBuilder := by kernel_rfl
  t5 := Tryd.underlying5
  a5 := Tryd.isAgg5
  z5 := Tryd.sizeOf5
  v5 := Tryd.zeroValue5
  infoByte := by kernel_rfl
  cellsByte := by kernel_rfl
  sizeByte := by kernel_rfl
  neB5 := by decide }
open Go.RowKit Go.Lib in
/-- **strings.Repeat: count ≥ 0, the result within one allocation: count copies of s.** (LAID: no walk: one application.) -/
theorem Tryd.strings_Repeat (s : ByteArray) (c : Nat) (w : World) (hc : c ≤ 9223372036854775807) (hlen : s.size * c ≤ 140737488355328) :
    Calls Tryd.prog 13 #[.string s, .int .i64 c] w fun e w' => e = .returned (.string ⟨(Lib.repeatL s.data.toList c).toArray⟩) ∧ Below w.heap.size w w' := Any.strings_Repeat Tryd.lays105 Tryd.Builder_Extra_105 s c w hc hlen
def Tryd.lays110_ren : Go.Shelf.Ren := ⟨fun | 110 => 85 | 109 => 103 | n => n, fun | 31 => 34 | 9 => 9 | 4 => 4 | 3 => 3 | 0 => 0 | n => n, fun | n => n⟩
theorem Tryd.lays110 : Go.Proofs.Lays.n110 Tryd.prog Tryd.lays110_ren := {
  mixed := by kernel_rfl
  f109 := Tryd.func103.trans (congrArg some (by kernel_rfl))
  f110 := Tryd.func85.trans (congrArg some (by kernel_rfl))
  t0 := Tryd.underlying0
  a0 := Tryd.isAgg0
  z0 := Tryd.sizeOf0
  v0 := Tryd.zeroValue0
  t3 := Tryd.underlying3
  a3 := Tryd.isAgg3
  z3 := Tryd.sizeOf3
  v3 := Tryd.zeroValue3
  t4 := Tryd.underlying4
  a4 := Tryd.isAgg4
  z4 := Tryd.sizeOf4
  v4 := Tryd.zeroValue4
  t9 := Tryd.underlying9
  a9 := Tryd.isAgg9
  z9 := Tryd.sizeOf9
  v9 := Tryd.zeroValue9
  t31 := Tryd.underlying34
  a31 := Tryd.isAgg34
  z31 := Tryd.sizeOf34
  v31 := Tryd.zeroValue34 }
open Go.Lib in
/-- slices.Contains at []string: "Contains reports whether v is present in s.": IT RETURNS 'Lib.containsS (the elements) v', which is true just where v is among them ('Lib.containsS_iff'); the world is as it was. ITS CALLEE slices.Index IS MET BY ITS OWN CONTRACT OFF THE SHELF (lay that first): no loop is walked here. (LAID: no walk: one application.) -/
theorem Tryd.slices_Contains_string (b off n c : Nat) (zs : List ByteArray) (x : ByteArray) (w : World) (hz : n ≤ zs.length) (hbig : n ≤ 9223372036854775807) (hc : ∀ j, j < zs.length → w.cell? ⟨b, off + j, none⟩ = some (.string (zs.getD j ByteArray.empty))) :
    Calls Tryd.prog 85 #[.slice (some ⟨b, off, none⟩) n c, .string x] w fun e w' => e = .returned (.bool (Lib.containsS (zs.take n) x)) ∧ w' = w := Any.slices_Contains_string Tryd.lays110 b off n c zs x w hz hbig hc
end Go.Proofs
