/- Each function below answers as its Lean twin says. No further condition. (Laid by this repo's packseat.py out of the seat's texts and of the print's words.) -/
import Derived.Shelf.Strings.Trim
import Derived.Shelf.Small.Utf8
import Derived.Shelf.Small.Strs
import Derived.Shelf.Strconv.Itoa0
import Derived.Shelf.Strconv.Itoa1
import Derived.Shelf.LaysM
import Derived.Shelf.Strconv.Itoa2
import Derived.Shelf.Strconv.Itoa3
import Derived.Shelf.Strings.Search1
import Derived.Shelf.Strings.Search2
import Derived.Shelf.Strings.Search3
import Derived.Shelf.Strings.Cut
import Derived.Shelf.Strings.Count
import Derived.Shelf.Strings.Shaped
import Derived.Shelf.Strings.LastIndex
import Derived.Shelf.Strings.Split
import Derived.Shelf.Strings.Runes
import Derived.Shelf.Strings.AsciiSet
import Derived.Shelf.Unicode.DecodeSlow
import Derived.Test.YtjgpifjfaiaidaaDoorProg
namespace Go.Proofs
open Go.Shelf
def Tryd.lays162_ren : Go.Shelf.Ren := ⟨fun | 162 => 88 | 232 => 79 | 227 => 80 | 234 => 82 | 236 => 84 | 228 => 101 | 271 => 104 | 151 => 103 | 120 => 118 | 197 => 102 | 152 => 117 | 260 => 116 | 137 => 69 | 119 => 124 | 224 => 114 | 225 => 113 | 217 => 96 | 266 => 112 | n => n, fun | 9 => 9 | 4 => 4 | 3 => 3 | 5 => 5 | 117 => 94 | 116 => 93 | 0 => 0 | 124 => 97 | 21 => 21 | 105 => 106 | 46 => 113 | 119 => 124 | 139 => 127 | 138 => 126 | n => n, fun | 3 => 1 | 4 => 2 | n => n⟩
theorem Tryd.lays162 : Go.Proofs.Lays.n162 Tryd.prog Tryd.lays162_ren := {
  mixed := by kernel_rfl
  f119 := Tryd.func124.trans (congrArg some (by kernel_rfl))
  f120 := Tryd.func118.trans (congrArg some (by kernel_rfl))
  f137 := Tryd.func69.trans (congrArg some (by kernel_rfl))
  f151 := Tryd.func103.trans (congrArg some (by kernel_rfl))
  f152 := Tryd.func117.trans (congrArg some (by kernel_rfl))
  f162 := Tryd.func88.trans (congrArg some (by kernel_rfl))
  f197 := Tryd.func102.trans (congrArg some (by kernel_rfl))
  f217 := Tryd.func96.trans (congrArg some (by kernel_rfl))
  f224 := Tryd.func114.trans (congrArg some (by kernel_rfl))
  f225 := Tryd.func113.trans (congrArg some (by kernel_rfl))
  f227 := Tryd.func80.trans (congrArg some (by kernel_rfl))
  f228 := Tryd.func101.trans (congrArg some (by kernel_rfl))
  f232 := Tryd.func79.trans (congrArg some (by kernel_rfl))
  f234 := Tryd.func82.trans (congrArg some (by kernel_rfl))
  f236 := Tryd.func84.trans (congrArg some (by kernel_rfl))
  f260 := Tryd.func116.trans (congrArg some (by kernel_rfl))
  f266 := Tryd.func112.trans (congrArg some (by kernel_rfl))
  f271 := Tryd.func104.trans (congrArg some (by kernel_rfl))
  t0 := Tryd.underlying0
  a0 := Tryd.isAgg0
  z0 := Tryd.sizeOf0
  v0 := Tryd.zeroValue0
  t3 := Tryd.underlying3
  a3 := Tryd.isAgg3
  z3 := Tryd.sizeOf3
  v3 := Tryd.zeroValue3
  t4 := Tryd.underlying4
  a4 := Tryd.isAgg4
  z4 := Tryd.sizeOf4
  v4 := Tryd.zeroValue4
  t5 := Tryd.underlying5
  a5 := Tryd.isAgg5
  z5 := Tryd.sizeOf5
  v5 := Tryd.zeroValue5
  t9 := Tryd.underlying9
  a9 := Tryd.isAgg9
  z9 := Tryd.sizeOf9
  v9 := Tryd.zeroValue9
  t21 := Tryd.underlying21
  a21 := Tryd.isAgg21
  z21 := Tryd.sizeOf21
  v21 := Tryd.zeroValue21
  t46 := Tryd.underlying113
  a46 := Tryd.isAgg113
  z46 := Tryd.sizeOf113
  v46 := Tryd.zeroValue113
  t105 := Tryd.underlying106
  a105 := Tryd.isAgg106
  z105 := Tryd.sizeOf106
  v105 := Tryd.zeroValue106
  t116 := Tryd.underlying93
  a116 := Tryd.isAgg93
  z116 := Tryd.sizeOf93
  t117 := Tryd.underlying94
  a117 := Tryd.isAgg94
  z117 := Tryd.sizeOf94
  v117 := Tryd.zeroValue94
  t119 := Tryd.underlying124
  a119 := Tryd.isAgg124
  z119 := Tryd.sizeOf124
  t124 := Tryd.underlying97
  a124 := Tryd.isAgg97
  z124 := Tryd.sizeOf97
  v124 := Tryd.zeroValue97
  t138 := Tryd.underlying126
  a138 := Tryd.isAgg126
  z138 := Tryd.sizeOf126
  v138 := Tryd.zeroValue126
  t139 := Tryd.underlying127
  a139 := Tryd.isAgg127
  z139 := Tryd.sizeOf127
  v139 := Tryd.zeroValue127
  g3 := by kernel_rfl
  g4 := by kernel_rfl }
def Tryd.lays160_ren : Go.Shelf.Ren := ⟨fun | 160 => 52 | 232 => 79 | 231 => 78 | 227 => 80 | 234 => 82 | 233 => 81 | 236 => 84 | 235 => 83 | 228 => 101 | 271 => 104 | 151 => 103 | 197 => 102 | 120 => 118 | 152 => 117 | 260 => 116 | 137 => 69 | 119 => 124 | 224 => 114 | 225 => 113 | 217 => 96 | 266 => 112 | n => n, fun | 9 => 9 | 4 => 4 | 3 => 3 | 5 => 5 | 117 => 94 | 116 => 93 | 0 => 0 | 124 => 97 | 21 => 21 | 105 => 106 | 46 => 113 | 119 => 124 | 139 => 127 | 138 => 126 | n => n, fun | 3 => 1 | 4 => 2 | n => n⟩
theorem Tryd.lays160 : Go.Proofs.Lays.n160 Tryd.prog Tryd.lays160_ren := {
  mixed := by kernel_rfl
  f119 := Tryd.func124.trans (congrArg some (by kernel_rfl))
  f120 := Tryd.func118.trans (congrArg some (by kernel_rfl))
  f137 := Tryd.func69.trans (congrArg some (by kernel_rfl))
  f151 := Tryd.func103.trans (congrArg some (by kernel_rfl))
  f152 := Tryd.func117.trans (congrArg some (by kernel_rfl))
  f160 := Tryd.func52.trans (congrArg some (by kernel_rfl))
  f197 := Tryd.func102.trans (congrArg some (by kernel_rfl))
  f217 := Tryd.func96.trans (congrArg some (by kernel_rfl))
  f224 := Tryd.func114.trans (congrArg some (by kernel_rfl))
  f225 := Tryd.func113.trans (congrArg some (by kernel_rfl))
  f227 := Tryd.func80.trans (congrArg some (by kernel_rfl))
  f228 := Tryd.func101.trans (congrArg some (by kernel_rfl))
  f231 := Tryd.func78.trans (congrArg some (by kernel_rfl))
  f232 := Tryd.func79.trans (congrArg some (by kernel_rfl))
  f233 := Tryd.func81.trans (congrArg some (by kernel_rfl))
  f234 := Tryd.func82.trans (congrArg some (by kernel_rfl))
  f235 := Tryd.func83.trans (congrArg some (by kernel_rfl))
  f236 := Tryd.func84.trans (congrArg some (by kernel_rfl))
  f260 := Tryd.func116.trans (congrArg some (by kernel_rfl))
  f266 := Tryd.func112.trans (congrArg some (by kernel_rfl))
  f271 := Tryd.func104.trans (congrArg some (by kernel_rfl))
  t0 := Tryd.underlying0
  a0 := Tryd.isAgg0
  z0 := Tryd.sizeOf0
  v0 := Tryd.zeroValue0
  t3 := Tryd.underlying3
  a3 := Tryd.isAgg3
  z3 := Tryd.sizeOf3
  v3 := Tryd.zeroValue3
  t4 := Tryd.underlying4
  a4 := Tryd.isAgg4
  z4 := Tryd.sizeOf4
  v4 := Tryd.zeroValue4
  t5 := Tryd.underlying5
  a5 := Tryd.isAgg5
  z5 := Tryd.sizeOf5
  v5 := Tryd.zeroValue5
  t9 := Tryd.underlying9
  a9 := Tryd.isAgg9
  z9 := Tryd.sizeOf9
  v9 := Tryd.zeroValue9
  t21 := Tryd.underlying21
  a21 := Tryd.isAgg21
  z21 := Tryd.sizeOf21
  v21 := Tryd.zeroValue21
  t46 := Tryd.underlying113
  a46 := Tryd.isAgg113
  z46 := Tryd.sizeOf113
  v46 := Tryd.zeroValue113
  t105 := Tryd.underlying106
  a105 := Tryd.isAgg106
  z105 := Tryd.sizeOf106
  v105 := Tryd.zeroValue106
  t116 := Tryd.underlying93
  a116 := Tryd.isAgg93
  z116 := Tryd.sizeOf93
  t117 := Tryd.underlying94
  a117 := Tryd.isAgg94
  z117 := Tryd.sizeOf94
  v117 := Tryd.zeroValue94
  t119 := Tryd.underlying124
  a119 := Tryd.isAgg124
  z119 := Tryd.sizeOf124
  t124 := Tryd.underlying97
  a124 := Tryd.isAgg97
  z124 := Tryd.sizeOf97
  v124 := Tryd.zeroValue97
  t138 := Tryd.underlying126
  a138 := Tryd.isAgg126
  z138 := Tryd.sizeOf126
  v138 := Tryd.zeroValue126
  t139 := Tryd.underlying127
  a139 := Tryd.isAgg127
  z139 := Tryd.sizeOf127
  v139 := Tryd.zeroValue127
  g3 := by kernel_rfl
  g4 := by kernel_rfl }
def Tryd.lays137_ren : Go.Shelf.Ren := ⟨fun | 137 => 69 | 217 => 96 | 266 => 112 | n => n, fun | 9 => 9 | 5 => 5 | 3 => 3 | n => n, fun | n => n⟩
theorem Tryd.lays137 : Go.Proofs.Lays.n137 Tryd.prog Tryd.lays137_ren := {
  mixed := by kernel_rfl
  f137 := Tryd.func69.trans (congrArg some (by kernel_rfl))
  f217 := Tryd.func96.trans (congrArg some (by kernel_rfl))
  f266 := Tryd.func112.trans (congrArg some (by kernel_rfl))
  t3 := Tryd.underlying3
  a3 := Tryd.isAgg3
  z3 := Tryd.sizeOf3
  v3 := Tryd.zeroValue3
  t5 := Tryd.underlying5
  a5 := Tryd.isAgg5
  z5 := Tryd.sizeOf5
  v5 := Tryd.zeroValue5
  t9 := Tryd.underlying9
  a9 := Tryd.isAgg9
  z9 := Tryd.sizeOf9
  v9 := Tryd.zeroValue9 }
open Go.RowKit in
/-- strings.IndexByte: "IndexByte returns the index of the first instance of c in s, or -1 if c is not present in s.": IT RETURNS 'Lib.indexByte s c'; the world is as it was. (LAID: no walk: one application.) -/
theorem Tryd.strings_IndexByte (s : ByteArray) (c : Int) (w : World) :
    Calls Tryd.prog 69 #[.string s, .int .u8 c] w fun e w' => e = .returned (.int .i64 (Lib.indexByte s.data.toList c.toNat.toUInt8)) ∧ w' = w := Any.strings_IndexByte Tryd.lays137 s c w
def Tryd.laysM246_ren : Go.Shelf.Ren := ⟨fun | 246 => 105 | 283 => 119 | 284 => 120 | 285 => 121 | 286 => 122 | 129 => 126 | 317 => 125 | 318 => 127 | 319 => 128 | 320 => 129 | 337 => 130 | 338 => 131 | n => n, fun | 2 => 2 | 3 => 3 | 9 => 9 | 4 => 4 | 171 => 115 | 0 => 0 | 53 => 116 | 37 => 24 | 5 => 5 | 173 => 119 | 212 => 130 | 51 => 121 | 20 => 20 | 213 => 131 | 46 => 113 | 232 => 135 | 233 => 136 | n => n, fun | 17 => 3 | 18 => 4 | 19 => 5 | n => n⟩
theorem Tryd.laysM246 : Go.Proofs.LaysM.n246 Tryd.prog Tryd.laysM246_ren := {
  mixed := by kernel_rfl
  f129 := Tryd.func126.trans (congrArg some (by kernel_rfl))
  f246 := Tryd.func105.trans (congrArg some (by kernel_rfl))
  f283 := Tryd.func119.trans (congrArg some (by kernel_rfl))
  f284 := Tryd.func120.trans (congrArg some (by kernel_rfl))
  f285 := Tryd.func121.trans (congrArg some (by kernel_rfl))
  f286 := Tryd.func122.trans (congrArg some (by kernel_rfl))
  f317 := Tryd.func125.trans (congrArg some (by kernel_rfl))
  f318 := Tryd.func127.trans (congrArg some (by kernel_rfl))
  f319 := Tryd.func128.trans (congrArg some (by kernel_rfl))
  f320 := Tryd.func129.trans (congrArg some (by kernel_rfl))
  f337 := Tryd.func130.trans (congrArg some (by kernel_rfl))
  f338 := Tryd.func131.trans (congrArg some (by kernel_rfl))
  t0 := Tryd.underlying0
  a0 := Tryd.isAgg0
  z0 := Tryd.sizeOf0
  v0 := Tryd.zeroValue0
  t2 := Tryd.underlying2
  a2 := Tryd.isAgg2
  z2 := Tryd.sizeOf2
  v2 := Tryd.zeroValue2
  t3 := Tryd.underlying3
  a3 := Tryd.isAgg3
  z3 := Tryd.sizeOf3
  v3 := Tryd.zeroValue3
  t4 := Tryd.underlying4
  a4 := Tryd.isAgg4
  z4 := Tryd.sizeOf4
  v4 := Tryd.zeroValue4
  t5 := Tryd.underlying5
  a5 := Tryd.isAgg5
  z5 := Tryd.sizeOf5
  v5 := Tryd.zeroValue5
  t9 := Tryd.underlying9
  a9 := Tryd.isAgg9
  z9 := Tryd.sizeOf9
  v9 := Tryd.zeroValue9
  t20 := Tryd.underlying20
  a20 := Tryd.isAgg20
  z20 := Tryd.sizeOf20
  v20 := Tryd.zeroValue20
  t37 := Tryd.underlying24
  a37 := Tryd.isAgg24
  z37 := Tryd.sizeOf24
  v37 := Tryd.zeroValue24
  t46 := Tryd.underlying113
  a46 := Tryd.isAgg113
  z46 := Tryd.sizeOf113
  v46 := Tryd.zeroValue113
  t51 := Tryd.underlying121
  a51 := Tryd.isAgg121
  z51 := Tryd.sizeOf121
  v51 := Tryd.zeroValue121
  t53 := Tryd.underlying116
  a53 := Tryd.isAgg116
  z53 := Tryd.sizeOf116
  v53 := Tryd.zeroValue116
  t171 := Tryd.underlying115
  a171 := Tryd.isAgg115
  z171 := Tryd.sizeOf115
  v171 := Tryd.zeroValue115
  t173 := Tryd.underlying119
  a173 := Tryd.isAgg119
  z173 := Tryd.sizeOf119
  v173 := Tryd.zeroValue119
  t212 := Tryd.underlying130
  a212 := Tryd.isAgg130
  z212 := Tryd.sizeOf130
  v212 := Tryd.zeroValue130
  t213 := Tryd.underlying131
  a213 := Tryd.isAgg131
  z213 := Tryd.sizeOf131
  t232 := Tryd.underlying135
  a232 := Tryd.isAgg135
  z232 := Tryd.sizeOf135
  v232 := Tryd.zeroValue135
  t233 := Tryd.underlying136
  a233 := Tryd.isAgg136
  z233 := Tryd.sizeOf136
  v233 := Tryd.zeroValue136
  g17 := by kernel_rfl
  g18 := by kernel_rfl
  g19 := by kernel_rfl
  i0 := by kernel_rfl
  i2 := by kernel_rfl
  i3 := by kernel_rfl
  i4 := by kernel_rfl
  i5 := by kernel_rfl
  i9 := by kernel_rfl
  i20 := by kernel_rfl
  i37 := by kernel_rfl
  i46 := by kernel_rfl
  i51 := by kernel_rfl
  i53 := by kernel_rfl
  i171 := by kernel_rfl
  i173 := by kernel_rfl
  i212 := by kernel_rfl
  i232 := by kernel_rfl
  i233 := by kernel_rfl
  m17 := by kernel_rfl
  m18 := by kernel_rfl
  m19 := by kernel_rfl }
open Go.RowKit Go.Sort Go.Lib in
/-- internal/strconv.FormatInt: "FormatInt returns the string representation of i in the given base": AT BASE 10: i's decimal numeral, for every int64. The world behind the call: the world before it, new blocks behind the heap, draws. (LAID: no walk: one application.) -/
theorem Tryd.internal_strconv_FormatInt_10 (n : Int) (h0 : -9223372036854775808 ≤ n) (h1 : n ≤ 9223372036854775807) (w : World) (htab : Lib.TabIs Tryd.prog w "internal/strconv.uint64pow10" .u64 Lib.pow10Tab) :
    Calls Tryd.prog 105 #[.int .i64 n, .int .i64 10] w fun e w' => e = .returned (.string ⟨(Lib.itoa n).toArray⟩) ∧ ∃ k os, w' = grow (w.drewN k) os := Any.internal_strconv_FormatInt_10 Tryd.laysM246 n h0 h1 w htab
def Tryd.lays219_ren : Go.Shelf.Ren := ⟨fun | 219 => 99 | 217 => 96 | 225 => 113 | 224 => 114 | 267 => 115 | 266 => 112 | 314 => 123 | n => n, fun | 9 => 9 | 3 => 3 | 4 => 4 | 5 => 5 | 46 => 113 | 146 => 122 | 51 => 121 | n => n, fun | 1 => 0 | n => n⟩
theorem Tryd.lays219 : Go.Proofs.Lays.n219 Tryd.prog Tryd.lays219_ren := {
  mixed := by kernel_rfl
  f217 := Tryd.func96.trans (congrArg some (by kernel_rfl))
  f219 := Tryd.func99.trans (congrArg some (by kernel_rfl))
  f224 := Tryd.func114.trans (congrArg some (by kernel_rfl))
  f225 := Tryd.func113.trans (congrArg some (by kernel_rfl))
  f266 := Tryd.func112.trans (congrArg some (by kernel_rfl))
  f267 := Tryd.func115.trans (congrArg some (by kernel_rfl))
  f314 := Tryd.func123.trans (congrArg some (by kernel_rfl))
  t3 := Tryd.underlying3
  a3 := Tryd.isAgg3
  z3 := Tryd.sizeOf3
  v3 := Tryd.zeroValue3
  t4 := Tryd.underlying4
  a4 := Tryd.isAgg4
  z4 := Tryd.sizeOf4
  v4 := Tryd.zeroValue4
  t5 := Tryd.underlying5
  a5 := Tryd.isAgg5
  z5 := Tryd.sizeOf5
  v5 := Tryd.zeroValue5
  t9 := Tryd.underlying9
  a9 := Tryd.isAgg9
  z9 := Tryd.sizeOf9
  v9 := Tryd.zeroValue9
  t46 := Tryd.underlying113
  a46 := Tryd.isAgg113
  z46 := Tryd.sizeOf113
  v46 := Tryd.zeroValue113
  t51 := Tryd.underlying121
  a51 := Tryd.isAgg121
  z51 := Tryd.sizeOf121
  v51 := Tryd.zeroValue121
  t146 := Tryd.underlying122
  a146 := Tryd.isAgg122
  z146 := Tryd.sizeOf122
  v146 := Tryd.zeroValue122
  g1 := by kernel_rfl }
open Go.RowKit Go.Lib in
/-- internal/stringslite.Index (what strings.Index calls) AT A substr OF ONE BYTE c: IT RETURNS 'Lib.indexByte s c'; the world is as it was. (LAID: no walk: one application.) -/
theorem Tryd.stringslite_Index_one (s : ByteArray) (c : UInt8) (w : World) :
    Calls Tryd.prog 99 #[.string s, .string ⟨#[c]⟩] w fun e w' => e = .returned (.int .i64 (Lib.indexByte s.data.toList c)) ∧ w' = w := Any.stringslite_Index_one Tryd.lays219 s c w
open Go.RowKit Go.Lib in
/-- internal/stringslite.Index (what strings.Index calls) AT A substr OF WHATEVER LENGTH: IT RETURNS 'Lib.index s substr'; the world is as it was. 'm': what internal/bytealg.MaxLen holds: whatever. (LAID: no walk: one application.) -/
theorem Tryd.stringslite_Index (s sub : ByteArray) (m : Int) (w : World) (hs : s.size < 4294967281) (hm : w.cell? ⟨0, 0, none⟩ = some (.int .i64 m)) :
    Calls Tryd.prog 99 #[.string s, .string sub] w fun e w' => e = .returned (.int .i64 (Lib.index s.data.toList sub.data.toList)) ∧ w' = w := Any.stringslite_Index Tryd.lays219 s sub m w hs hm
def Tryd.lays143_ren : Go.Shelf.Ren := ⟨fun | 143 => 95 | 219 => 99 | 217 => 96 | 225 => 113 | 224 => 114 | 267 => 115 | 266 => 112 | 314 => 123 | n => n, fun | 9 => 9 | 3 => 3 | 4 => 4 | 5 => 5 | 46 => 113 | 146 => 122 | 51 => 121 | n => n, fun | 1 => 0 | n => n⟩
theorem Tryd.lays143 : Go.Proofs.Lays.n143 Tryd.prog Tryd.lays143_ren := {
  mixed := by kernel_rfl
  f143 := Tryd.func95.trans (congrArg some (by kernel_rfl))
  f217 := Tryd.func96.trans (congrArg some (by kernel_rfl))
  f219 := Tryd.func99.trans (congrArg some (by kernel_rfl))
  f224 := Tryd.func114.trans (congrArg some (by kernel_rfl))
  f225 := Tryd.func113.trans (congrArg some (by kernel_rfl))
  f266 := Tryd.func112.trans (congrArg some (by kernel_rfl))
  f267 := Tryd.func115.trans (congrArg some (by kernel_rfl))
  f314 := Tryd.func123.trans (congrArg some (by kernel_rfl))
  t3 := Tryd.underlying3
  a3 := Tryd.isAgg3
  z3 := Tryd.sizeOf3
  v3 := Tryd.zeroValue3
  t4 := Tryd.underlying4
  a4 := Tryd.isAgg4
  z4 := Tryd.sizeOf4
  v4 := Tryd.zeroValue4
  t5 := Tryd.underlying5
  a5 := Tryd.isAgg5
  z5 := Tryd.sizeOf5
  v5 := Tryd.zeroValue5
  t9 := Tryd.underlying9
  a9 := Tryd.isAgg9
  z9 := Tryd.sizeOf9
  v9 := Tryd.zeroValue9
  t46 := Tryd.underlying113
  a46 := Tryd.isAgg113
  z46 := Tryd.sizeOf113
  v46 := Tryd.zeroValue113
  t51 := Tryd.underlying121
  a51 := Tryd.isAgg121
  z51 := Tryd.sizeOf121
  v51 := Tryd.zeroValue121
  t146 := Tryd.underlying122
  a146 := Tryd.isAgg122
  z146 := Tryd.sizeOf122
  v146 := Tryd.zeroValue122
  g1 := by kernel_rfl }
open Go.RowKit Go.Lib in
/-- strings.Index: "Index returns the index of the first instance of substr in s, or -1 if substr is not present in s.": AT A substr OF ONE BYTE c: IT RETURNS 'Lib.indexByte s c'; the world is as it was. (LAID: no walk: one application.) -/
theorem Tryd.strings_Index_one (s : ByteArray) (c : UInt8) (w : World) :
    Calls Tryd.prog 95 #[.string s, .string ⟨#[c]⟩] w fun e w' => e = .returned (.int .i64 (Lib.indexByte s.data.toList c)) ∧ w' = w := Any.strings_Index_one Tryd.lays143 s c w
open Go.RowKit Go.Lib in
/-- strings.Index: "Index returns the index of the first instance of substr in s, or -1 if substr is not present in s.": IT RETURNS 'Lib.index s substr'; the world is as it was. (LAID: no walk: one application.) -/
theorem Tryd.strings_Index (s sub : ByteArray) (m : Int) (w : World) (hs : s.size < 4294967281) (hm : w.cell? ⟨0, 0, none⟩ = some (.int .i64 m)) :
    Calls Tryd.prog 95 #[.string s, .string sub] w fun e w' => e = .returned (.int .i64 (Lib.index s.data.toList sub.data.toList)) ∧ w' = w := Any.strings_Index Tryd.lays143 s sub m w hs hm
def Tryd.lays220_ren : Go.Shelf.Ren := ⟨fun | 220 => 73 | 219 => 99 | 217 => 96 | 225 => 113 | 224 => 114 | 267 => 115 | 266 => 112 | 314 => 123 | n => n, fun | 9 => 9 | 4 => 4 | 3 => 3 | 5 => 5 | 46 => 113 | 146 => 122 | 51 => 121 | n => n, fun | 1 => 0 | n => n⟩
theorem Tryd.lays220 : Go.Proofs.Lays.n220 Tryd.prog Tryd.lays220_ren := {
  mixed := by kernel_rfl
  f217 := Tryd.func96.trans (congrArg some (by kernel_rfl))
  f219 := Tryd.func99.trans (congrArg some (by kernel_rfl))
  f220 := Tryd.func73.trans (congrArg some (by kernel_rfl))
  f224 := Tryd.func114.trans (congrArg some (by kernel_rfl))
  f225 := Tryd.func113.trans (congrArg some (by kernel_rfl))
  f266 := Tryd.func112.trans (congrArg some (by kernel_rfl))
  f267 := Tryd.func115.trans (congrArg some (by kernel_rfl))
  f314 := Tryd.func123.trans (congrArg some (by kernel_rfl))
  t3 := Tryd.underlying3
  a3 := Tryd.isAgg3
  z3 := Tryd.sizeOf3
  v3 := Tryd.zeroValue3
  t4 := Tryd.underlying4
  a4 := Tryd.isAgg4
  z4 := Tryd.sizeOf4
  v4 := Tryd.zeroValue4
  t5 := Tryd.underlying5
  a5 := Tryd.isAgg5
  z5 := Tryd.sizeOf5
  v5 := Tryd.zeroValue5
  t9 := Tryd.underlying9
  a9 := Tryd.isAgg9
  z9 := Tryd.sizeOf9
  v9 := Tryd.zeroValue9
  t46 := Tryd.underlying113
  a46 := Tryd.isAgg113
  z46 := Tryd.sizeOf113
  v46 := Tryd.zeroValue113
  t51 := Tryd.underlying121
  a51 := Tryd.isAgg121
  z51 := Tryd.sizeOf121
  v51 := Tryd.zeroValue121
  t146 := Tryd.underlying122
  a146 := Tryd.isAgg122
  z146 := Tryd.sizeOf122
  v146 := Tryd.zeroValue122
  g1 := by kernel_rfl }
open Go.RowKit Go.Lib in
/-- internal/stringslite.Cut (what strings.Cut calls): IT RETURNS 'Lib.cut s sep'; the world is as it was but for the count of draws. (LAID: no walk: one application.) -/
theorem Tryd.stringslite_Cut (s sep : ByteArray) (m : Int) (w : World) (hs : s.size < 4294967281) (hm : w.cell? ⟨0, 0, none⟩ = some (.int .i64 m)) :
    Calls Tryd.prog 73 #[.string s, .string sep] w fun e w' => e = .returned (.tuple #[.string ⟨(Lib.cut s.data.toList sep.data.toList).1.toArray⟩, .string ⟨(Lib.cut s.data.toList sep.data.toList).2.1.toArray⟩, .bool (Lib.cut s.data.toList sep.data.toList).2.2]) ∧ ∃ n, w' = w.drewN n := Any.stringslite_Cut Tryd.lays220 s sep m w hs hm
def Tryd.lays145_ren : Go.Shelf.Ren := ⟨fun | 145 => 44 | 220 => 73 | 219 => 99 | 217 => 96 | 225 => 113 | 224 => 114 | 267 => 115 | 266 => 112 | 314 => 123 | n => n, fun | 9 => 9 | 4 => 4 | 59 => 63 | 3 => 3 | 5 => 5 | 46 => 113 | 146 => 122 | 51 => 121 | n => n, fun | 1 => 0 | n => n⟩
theorem Tryd.lays145 : Go.Proofs.Lays.n145 Tryd.prog Tryd.lays145_ren := {
  mixed := by kernel_rfl
  f145 := Tryd.func44.trans (congrArg some (by kernel_rfl))
  f217 := Tryd.func96.trans (congrArg some (by kernel_rfl))
  f219 := Tryd.func99.trans (congrArg some (by kernel_rfl))
  f220 := Tryd.func73.trans (congrArg some (by kernel_rfl))
  f224 := Tryd.func114.trans (congrArg some (by kernel_rfl))
  f225 := Tryd.func113.trans (congrArg some (by kernel_rfl))
  f266 := Tryd.func112.trans (congrArg some (by kernel_rfl))
  f267 := Tryd.func115.trans (congrArg some (by kernel_rfl))
  f314 := Tryd.func123.trans (congrArg some (by kernel_rfl))
  t3 := Tryd.underlying3
  a3 := Tryd.isAgg3
  z3 := Tryd.sizeOf3
  v3 := Tryd.zeroValue3
  t4 := Tryd.underlying4
  a4 := Tryd.isAgg4
  z4 := Tryd.sizeOf4
  v4 := Tryd.zeroValue4
  t5 := Tryd.underlying5
  a5 := Tryd.isAgg5
  z5 := Tryd.sizeOf5
  v5 := Tryd.zeroValue5
  t9 := Tryd.underlying9
  a9 := Tryd.isAgg9
  z9 := Tryd.sizeOf9
  v9 := Tryd.zeroValue9
  t46 := Tryd.underlying113
  a46 := Tryd.isAgg113
  z46 := Tryd.sizeOf113
  v46 := Tryd.zeroValue113
  t51 := Tryd.underlying121
  a51 := Tryd.isAgg121
  z51 := Tryd.sizeOf121
  v51 := Tryd.zeroValue121
  t59 := Tryd.underlying63
  a59 := Tryd.isAgg63
  z59 := Tryd.sizeOf63
  v59 := Tryd.zeroValue63
  t146 := Tryd.underlying122
  a146 := Tryd.isAgg122
  z146 := Tryd.sizeOf122
  v146 := Tryd.zeroValue122
  g1 := by kernel_rfl }
open Go.RowKit Go.Lib in
/-- strings.Cut: "Cut slices s around the first instance of sep, returning the text before and after sep. The found result reports whether sep appears in s. If sep does not appear in s, cut returns s, "", false.": IT RETURNS 'Lib.cut s sep'; the world is as it was but for the count of draws. (LAID: no walk: one application.) -/
theorem Tryd.strings_Cut (s sep : ByteArray) (m : Int) (w : World) (hs : s.size < 4294967281) (hm : w.cell? ⟨0, 0, none⟩ = some (.int .i64 m)) :
    Calls Tryd.prog 44 #[.string s, .string sep] w fun e w' => e = .returned (.tuple #[.string ⟨(Lib.cut s.data.toList sep.data.toList).1.toArray⟩, .string ⟨(Lib.cut s.data.toList sep.data.toList).2.1.toArray⟩, .bool (Lib.cut s.data.toList sep.data.toList).2.2]) ∧ ∃ n, w' = w.drewN n := Any.strings_Cut Tryd.lays145 s sep m w hs hm
def Tryd.lays138_ren : Go.Shelf.Ren := ⟨fun | 138 => 94 | 195 => 110 | 218 => 111 | 143 => 95 | 219 => 99 | 217 => 96 | 225 => 113 | 224 => 114 | 267 => 115 | 266 => 112 | 314 => 123 | n => n, fun | 9 => 9 | 3 => 3 | 4 => 4 | 5 => 5 | 0 => 0 | 46 => 113 | 146 => 122 | 51 => 121 | n => n, fun | 1 => 0 | n => n⟩
theorem Tryd.lays138 : Go.Proofs.Lays.n138 Tryd.prog Tryd.lays138_ren := {
  mixed := by kernel_rfl
  f138 := Tryd.func94.trans (congrArg some (by kernel_rfl))
  f143 := Tryd.func95.trans (congrArg some (by kernel_rfl))
  f195 := Tryd.func110.trans (congrArg some (by kernel_rfl))
  f217 := Tryd.func96.trans (congrArg some (by kernel_rfl))
  f218 := Tryd.func111.trans (congrArg some (by kernel_rfl))
  f219 := Tryd.func99.trans (congrArg some (by kernel_rfl))
  f224 := Tryd.func114.trans (congrArg some (by kernel_rfl))
  f225 := Tryd.func113.trans (congrArg some (by kernel_rfl))
  f266 := Tryd.func112.trans (congrArg some (by kernel_rfl))
  f267 := Tryd.func115.trans (congrArg some (by kernel_rfl))
  f314 := Tryd.func123.trans (congrArg some (by kernel_rfl))
  t0 := Tryd.underlying0
  a0 := Tryd.isAgg0
  z0 := Tryd.sizeOf0
  v0 := Tryd.zeroValue0
  t3 := Tryd.underlying3
  a3 := Tryd.isAgg3
  z3 := Tryd.sizeOf3
  v3 := Tryd.zeroValue3
  t4 := Tryd.underlying4
  a4 := Tryd.isAgg4
  z4 := Tryd.sizeOf4
  v4 := Tryd.zeroValue4
  t5 := Tryd.underlying5
  a5 := Tryd.isAgg5
  z5 := Tryd.sizeOf5
  v5 := Tryd.zeroValue5
  t9 := Tryd.underlying9
  a9 := Tryd.isAgg9
  z9 := Tryd.sizeOf9
  v9 := Tryd.zeroValue9
  t46 := Tryd.underlying113
  a46 := Tryd.isAgg113
  z46 := Tryd.sizeOf113
  v46 := Tryd.zeroValue113
  t51 := Tryd.underlying121
  a51 := Tryd.isAgg121
  z51 := Tryd.sizeOf121
  v51 := Tryd.zeroValue121
  t146 := Tryd.underlying122
  a146 := Tryd.isAgg122
  z146 := Tryd.sizeOf122
  v146 := Tryd.zeroValue122
  g1 := by kernel_rfl }
open Go.RowKit Go.Lib in
/-- strings.Count AT A substr OF ONE BYTE ('hp'): "Count counts the number of non-overlapping instances of substr in s.": IT RETURNS 'Lib.countByte s (that byte)'; the world is as it was. ✋ NO CONTRACT HERE YET at an empty substr (utf8.RuneCountInString) or at a longer one (a loop over strings.Index). (LAID: no walk: one application.) -/
theorem Tryd.strings_Count_one (s : ByteArray) (c : UInt8) (w : World) :
    Calls Tryd.prog 94 #[.string s, .string ⟨#[c]⟩] w fun e w' => e = .returned (.int .i64 (Lib.countByte s.data.toList c)) ∧ w' = w := Any.strings_Count_one Tryd.lays138 s c w
open Go.RowKit Go.Lib in
/-- strings.Count AT A substr OF TWO BYTES OR MORE: "Count counts the number of non-overlapping instances of substr in s.": IT RETURNS 'Lib.count s substr'; the world is as it was. (LAID: no walk: one application.) -/
theorem Tryd.strings_Count (s sub : ByteArray) (m : Int) (w : World) (hs : s.size < 4294967281) (hm : w.cell? ⟨0, 0, none⟩ = some (.int .i64 m)) (h2 : 2 ≤ sub.size) :
    Calls Tryd.prog 94 #[.string s, .string sub] w fun e w' => e = .returned (.int .i64 (Lib.countB s sub)) ∧ w' = w := Any.strings_Count Tryd.lays138 s sub m w hs hm h2
def Tryd.lays149_ren : Go.Shelf.Ren := ⟨fun | 149 => 51 | 222 => 77 | n => n, fun | 9 => 9 | 5 => 5 | 3 => 3 | 4 => 4 | n => n, fun | n => n⟩
theorem Tryd.lays149 : Go.Proofs.Lays.n149 Tryd.prog Tryd.lays149_ren := {
  mixed := by kernel_rfl
  f149 := Tryd.func51.trans (congrArg some (by kernel_rfl))
  f222 := Tryd.func77.trans (congrArg some (by kernel_rfl))
  t3 := Tryd.underlying3
  a3 := Tryd.isAgg3
  z3 := Tryd.sizeOf3
  v3 := Tryd.zeroValue3
  t4 := Tryd.underlying4
  a4 := Tryd.isAgg4
  z4 := Tryd.sizeOf4
  v4 := Tryd.zeroValue4
  t5 := Tryd.underlying5
  a5 := Tryd.isAgg5
  z5 := Tryd.sizeOf5
  v5 := Tryd.zeroValue5
  t9 := Tryd.underlying9
  a9 := Tryd.isAgg9
  z9 := Tryd.sizeOf9
  v9 := Tryd.zeroValue9 }
open Go.RowKit Go.Lib in
/-- strings.LastIndexByte: "LastIndexByte returns the index of the last instance of c in s, or -1 if c is not present in s." (LAID: no walk: one application.) -/
theorem Tryd.strings_LastIndexByte (s : ByteArray) (c : Int) (hs : s.size < 4611686018427387904) (w : World) :
    Calls Tryd.prog 51 #[.string s, .int .u8 c] w fun e w' => e = .returned (.int .i64 (Lib.lastIndexByte s c)) ∧ w' = w := Any.strings_LastIndexByte Tryd.lays149 s c hs w
def Tryd.lays221_ren : Go.Shelf.Ren := ⟨fun | 221 => 65 | 268 => 93 | 138 => 94 | 143 => 95 | 195 => 110 | 197 => 102 | 218 => 111 | 219 => 99 | 260 => 116 | 217 => 96 | 225 => 113 | 224 => 114 | 267 => 115 | 266 => 112 | 314 => 123 | n => n, fun | 9 => 9 | 3 => 3 | 31 => 55 | 4 => 4 | 0 => 0 | 105 => 106 | 21 => 21 | 5 => 5 | 46 => 113 | 119 => 124 | 139 => 127 | 138 => 126 | 146 => 122 | 51 => 121 | n => n, fun | 1 => 0 | 3 => 1 | 4 => 2 | n => n⟩
theorem Tryd.lays221 : Go.Proofs.Lays.n221 Tryd.prog Tryd.lays221_ren := {
  mixed := by kernel_rfl
  f138 := Tryd.func94.trans (congrArg some (by kernel_rfl))
  f143 := Tryd.func95.trans (congrArg some (by kernel_rfl))
  f195 := Tryd.func110.trans (congrArg some (by kernel_rfl))
  f197 := Tryd.func102.trans (congrArg some (by kernel_rfl))
  f217 := Tryd.func96.trans (congrArg some (by kernel_rfl))
  f218 := Tryd.func111.trans (congrArg some (by kernel_rfl))
  f219 := Tryd.func99.trans (congrArg some (by kernel_rfl))
  f221 := Tryd.func65.trans (congrArg some (by kernel_rfl))
  f224 := Tryd.func114.trans (congrArg some (by kernel_rfl))
  f225 := Tryd.func113.trans (congrArg some (by kernel_rfl))
  f260 := Tryd.func116.trans (congrArg some (by kernel_rfl))
  f266 := Tryd.func112.trans (congrArg some (by kernel_rfl))
  f267 := Tryd.func115.trans (congrArg some (by kernel_rfl))
  f268 := Tryd.func93.trans (congrArg some (by kernel_rfl))
  f314 := Tryd.func123.trans (congrArg some (by kernel_rfl))
  t0 := Tryd.underlying0
  a0 := Tryd.isAgg0
  z0 := Tryd.sizeOf0
  v0 := Tryd.zeroValue0
  t3 := Tryd.underlying3
  a3 := Tryd.isAgg3
  z3 := Tryd.sizeOf3
  v3 := Tryd.zeroValue3
  t4 := Tryd.underlying4
  a4 := Tryd.isAgg4
  z4 := Tryd.sizeOf4
  v4 := Tryd.zeroValue4
  t5 := Tryd.underlying5
  a5 := Tryd.isAgg5
  z5 := Tryd.sizeOf5
  v5 := Tryd.zeroValue5
  t9 := Tryd.underlying9
  a9 := Tryd.isAgg9
  z9 := Tryd.sizeOf9
  v9 := Tryd.zeroValue9
  t21 := Tryd.underlying21
  a21 := Tryd.isAgg21
  z21 := Tryd.sizeOf21
  v21 := Tryd.zeroValue21
  t31 := Tryd.underlying55
  a31 := Tryd.isAgg55
  z31 := Tryd.sizeOf55
  v31 := Tryd.zeroValue55
  t46 := Tryd.underlying113
  a46 := Tryd.isAgg113
  z46 := Tryd.sizeOf113
  v46 := Tryd.zeroValue113
  t51 := Tryd.underlying121
  a51 := Tryd.isAgg121
  z51 := Tryd.sizeOf121
  v51 := Tryd.zeroValue121
  t105 := Tryd.underlying106
  a105 := Tryd.isAgg106
  z105 := Tryd.sizeOf106
  v105 := Tryd.zeroValue106
  t119 := Tryd.underlying124
  a119 := Tryd.isAgg124
  z119 := Tryd.sizeOf124
  t138 := Tryd.underlying126
  a138 := Tryd.isAgg126
  z138 := Tryd.sizeOf126
  v138 := Tryd.zeroValue126
  t139 := Tryd.underlying127
  a139 := Tryd.isAgg127
  z139 := Tryd.sizeOf127
  v139 := Tryd.zeroValue127
  t146 := Tryd.underlying122
  a146 := Tryd.isAgg122
  z146 := Tryd.sizeOf122
  v146 := Tryd.zeroValue122
  g1 := by kernel_rfl
  g3 := by kernel_rfl
  g4 := by kernel_rfl }
open Go.RowKit Go.Lib in
theorem Tryd.strings_genSplit (s sep : ByteArray) (sv : Nat) (n : Int) (N : Nat) (m : Int) (w : World) (hs : s.size < 4294967281) (hm : w.cell? ⟨0, 0, none⟩ = some (.int .i64 m)) (h1 : 1 ≤ sep.size) (hsv : sv ≤ sep.size) (hn0 : n ≠ 0) (hn63 : n ≤ 9223372036854775807) (hN : (N : Int) = min (if n < 0 then (Lib.countB s sep : Int) + 1 else n) ((s.size : Int) + 1)) :
    Calls Tryd.prog 65 #[.string s, .string sep, .int .i64 sv, .int .i64 n] w fun e w' =>
      e = .returned (.slice (some ⟨w.heap.size, 0, none⟩) (Lib.splitB sep sv (N - 1) s).length N) ∧ w' = w.alloc (.cells (Lib.cellsOf (Lib.splitB sep sv (N - 1) s) N) 9) := Any.strings_genSplit Tryd.lays221 (by kernel_rfl) s sep sv n N m w hs hm h1 hsv hn0 hn63 hN
def Tryd.lays146_ren : Go.Shelf.Ren := ⟨fun | 146 => 35 | 221 => 65 | 268 => 93 | 138 => 94 | 143 => 95 | 195 => 110 | 197 => 102 | 218 => 111 | 219 => 99 | 260 => 116 | 217 => 96 | 225 => 113 | 224 => 114 | 267 => 115 | 266 => 112 | 314 => 123 | n => n, fun | 9 => 9 | 31 => 55 | 3 => 3 | 4 => 4 | 0 => 0 | 105 => 106 | 21 => 21 | 5 => 5 | 46 => 113 | 119 => 124 | 139 => 127 | 138 => 126 | 146 => 122 | 51 => 121 | n => n, fun | 1 => 0 | 3 => 1 | 4 => 2 | n => n⟩
theorem Tryd.lays146 : Go.Proofs.Lays.n146 Tryd.prog Tryd.lays146_ren := {
  mixed := by kernel_rfl
  f138 := Tryd.func94.trans (congrArg some (by kernel_rfl))
  f143 := Tryd.func95.trans (congrArg some (by kernel_rfl))
  f146 := Tryd.func35.trans (congrArg some (by kernel_rfl))
  f195 := Tryd.func110.trans (congrArg some (by kernel_rfl))
  f197 := Tryd.func102.trans (congrArg some (by kernel_rfl))
  f217 := Tryd.func96.trans (congrArg some (by kernel_rfl))
  f218 := Tryd.func111.trans (congrArg some (by kernel_rfl))
  f219 := Tryd.func99.trans (congrArg some (by kernel_rfl))
  f221 := Tryd.func65.trans (congrArg some (by kernel_rfl))
  f224 := Tryd.func114.trans (congrArg some (by kernel_rfl))
  f225 := Tryd.func113.trans (congrArg some (by kernel_rfl))
  f260 := Tryd.func116.trans (congrArg some (by kernel_rfl))
  f266 := Tryd.func112.trans (congrArg some (by kernel_rfl))
  f267 := Tryd.func115.trans (congrArg some (by kernel_rfl))
  f268 := Tryd.func93.trans (congrArg some (by kernel_rfl))
  f314 := Tryd.func123.trans (congrArg some (by kernel_rfl))
  t0 := Tryd.underlying0
  a0 := Tryd.isAgg0
  z0 := Tryd.sizeOf0
  v0 := Tryd.zeroValue0
  t3 := Tryd.underlying3
  a3 := Tryd.isAgg3
  z3 := Tryd.sizeOf3
  v3 := Tryd.zeroValue3
  t4 := Tryd.underlying4
  a4 := Tryd.isAgg4
  z4 := Tryd.sizeOf4
  v4 := Tryd.zeroValue4
  t5 := Tryd.underlying5
  a5 := Tryd.isAgg5
  z5 := Tryd.sizeOf5
  v5 := Tryd.zeroValue5
  t9 := Tryd.underlying9
  a9 := Tryd.isAgg9
  z9 := Tryd.sizeOf9
  v9 := Tryd.zeroValue9
  t21 := Tryd.underlying21
  a21 := Tryd.isAgg21
  z21 := Tryd.sizeOf21
  v21 := Tryd.zeroValue21
  t31 := Tryd.underlying55
  a31 := Tryd.isAgg55
  z31 := Tryd.sizeOf55
  v31 := Tryd.zeroValue55
  t46 := Tryd.underlying113
  a46 := Tryd.isAgg113
  z46 := Tryd.sizeOf113
  v46 := Tryd.zeroValue113
  t51 := Tryd.underlying121
  a51 := Tryd.isAgg121
  z51 := Tryd.sizeOf121
  v51 := Tryd.zeroValue121
  t105 := Tryd.underlying106
  a105 := Tryd.isAgg106
  z105 := Tryd.sizeOf106
  v105 := Tryd.zeroValue106
  t119 := Tryd.underlying124
  a119 := Tryd.isAgg124
  z119 := Tryd.sizeOf124
  t138 := Tryd.underlying126
  a138 := Tryd.isAgg126
  z138 := Tryd.sizeOf126
  v138 := Tryd.zeroValue126
  t139 := Tryd.underlying127
  a139 := Tryd.isAgg127
  z139 := Tryd.sizeOf127
  v139 := Tryd.zeroValue127
  t146 := Tryd.underlying122
  a146 := Tryd.isAgg122
  z146 := Tryd.sizeOf122
  v146 := Tryd.zeroValue122
  g1 := by kernel_rfl
  g3 := by kernel_rfl
  g4 := by kernel_rfl }
open Go.RowKit Go.Lib in
/-- strings.Split. (LAID: no walk: one application.) -/
theorem Tryd.strings_Split (s sep : ByteArray) (m : Int) (w : World) (hs : s.size < 4294967281) (hm : w.cell? ⟨0, 0, none⟩ = some (.int .i64 m)) (h1 : 1 ≤ sep.size) :
    Calls Tryd.prog 35 #[.string s, .string sep] w fun e w' =>
      e = .returned (.slice (some ⟨w.heap.size, 0, none⟩) (Lib.countB s sep + 1) (Lib.countB s sep + 1)) ∧ w' = w.alloc (.cells ((Lib.splitB sep 0 (Lib.countB s sep) s).map Value.string).toArray 9) := Any.strings_Split Tryd.lays146 (by kernel_rfl) s sep m w hs hm h1
end Go.Proofs

