/-
  Contracts of Go's library at this seat's own numbers: laid by the kit's shelf (its plain mode), cut down to what is used.
-/
import Derived.Test.YtjnheoelcahkaaaDoorShelf
import Derived.Shelf.Strings.Builder1
import Derived.Shelf.Strings.Builder2
import Derived.Shelf.Utf8.RuneCount
import Derived.Shelf.Strconv.Atoi
import Derived.Shelf.Strconv.Itoa0
import Derived.Shelf.Strconv.Itoa1
import Derived.Shelf.LaysM
import Derived.Shelf.Strconv.Itoa2
import Derived.Shelf.Strconv.Itoa3
import Derived.Shelf.Strconv.AtoiErrFast
import Derived.Shelf.Strconv.ParseIntEmpty
import Derived.Shelf.Strconv.AtoiFail
import Derived.Shelf.Strconv.Clone
import Derived.Shelf.Strconv.SyntaxError
import Derived.Shelf.LaysC
import Derived.Shelf.Strconv.ToError
import Derived.Shelf.Strconv.Lower
import Derived.Shelf.Strconv.ParseUint10
import Derived.Shelf.Strconv.ParseUint10Empty
import Derived.Shelf.Strconv.ParseUint10Any
import Derived.Shelf.Strconv.ParseInt10
import Derived.Shelf.Strconv.AtoiLong
import Derived.Shelf.Strconv.AtoiInnerAll
import Derived.Shelf.Strconv.RangeError
import Derived.Shelf.Strconv.ToErrorRange
import Derived.Shelf.Strconv.AtoiAll
import Derived.Shelf.Strings.Search1
import Derived.Shelf.Strings.Search2
import Derived.Shelf.Strings.Search3
import Derived.Shelf.Strings.Cut
import Derived.Shelf.Strings.Count
import Derived.Shelf.Strings.Shaped
import Derived.Shelf.Strings.Split
import Derived.Shelf.Strings.SplitShaped
import Derived.Shelf.Unicode.Decode
import Derived.Shelf.Strings.RuneCount
import Derived.Shelf.Strings.Explode
import Derived.Shelf.Unicode.DecodeSlow
import Derived.Shelf.Unicode.DecodeAny
import Derived.Test.YtjnheoelcahkaaaDoorProg
namespace Go.Proofs
open Go.Shelf
def Tryd.laysC172_ren : Go.Shelf.Ren := ⟨fun | 172 => 59 | 244 => 77 | 245 => 78 | 247 => 89 | 279 => 90 | 280 => 91 | 281 => 92 | 282 => 93 | 287 => 107 | 316 => 108 | 171 => 54 | 205 => 109 | 321 => 117 | 322 => 118 | 243 => 71 | 246 => 82 | 283 => 94 | 284 => 95 | 285 => 96 | 286 => 97 | 129 => 81 | 317 => 110 | 318 => 111 | 319 => 112 | 320 => 113 | 337 => 119 | 338 => 120 | n => n, fun | 9 => 9 | 3 => 3 | 75 => 92 | 76 => 93 | 4 => 4 | 5 => 5 | 167 => 121 | 37 => 107 | 0 => 0 | 85 => 122 | 2 => 2 | 168 => 124 | 53 => 97 | 175 => 139 | 46 => 103 | 210 => 143 | 127 => 118 | 145 => 154 | 143 => 152 | 21 => 21 | 171 => 127 | 173 => 129 | 212 => 146 | 51 => 115 | 20 => 20 | 213 => 147 | 232 => 159 | 233 => 160 | 80 => 111 | n => n, fun | 15 => 1 | 16 => 2 | 17 => 3 | 18 => 6 | 19 => 7 | n => n⟩
theorem Tryd.laysC172 : Go.Proofs.LaysC.n172 Tryd.prog Tryd.laysC172_ren := {
  mixed := by kernel_rfl
  f129 := Tryd.func81.trans (congrArg some (by kernel_rfl))
  f171 := Tryd.func54.trans (congrArg some (by kernel_rfl))
  f172 := Tryd.func59.trans (congrArg some (by kernel_rfl))
  f205 := Tryd.func109.trans (congrArg some (by kernel_rfl))
  f243 := Tryd.func71.trans (congrArg some (by kernel_rfl))
  f244 := Tryd.func77.trans (congrArg some (by kernel_rfl))
  f245 := Tryd.func78.trans (congrArg some (by kernel_rfl))
  f246 := Tryd.func82.trans (congrArg some (by kernel_rfl))
  f247 := Tryd.func89.trans (congrArg some (by kernel_rfl))
  f279 := Tryd.func90.trans (congrArg some (by kernel_rfl))
  f280 := Tryd.func91.trans (congrArg some (by kernel_rfl))
  f281 := Tryd.func92.trans (congrArg some (by kernel_rfl))
  f282 := Tryd.func93.trans (congrArg some (by kernel_rfl))
  f283 := Tryd.func94.trans (congrArg some (by kernel_rfl))
  f284 := Tryd.func95.trans (congrArg some (by kernel_rfl))
  f285 := Tryd.func96.trans (congrArg some (by kernel_rfl))
  f286 := Tryd.func97.trans (congrArg some (by kernel_rfl))
  f287 := Tryd.func107.trans (congrArg some (by kernel_rfl))
  f316 := Tryd.func108.trans (congrArg some (by kernel_rfl))
  f317 := Tryd.func110.trans (congrArg some (by kernel_rfl))
  f318 := Tryd.func111.trans (congrArg some (by kernel_rfl))
  f319 := Tryd.func112.trans (congrArg some (by kernel_rfl))
  f320 := Tryd.func113.trans (congrArg some (by kernel_rfl))
  f321 := Tryd.func117.trans (congrArg some (by kernel_rfl))
  f322 := Tryd.func118.trans (congrArg some (by kernel_rfl))
  f337 := Tryd.func119.trans (congrArg some (by kernel_rfl))
  f338 := Tryd.func120.trans (congrArg some (by kernel_rfl))
  t0 := Tryd.underlying0
  a0 := Tryd.isAgg0
  z0 := Tryd.sizeOf0
  v0 := Tryd.zeroValue0
  t2 := Tryd.underlying2
  a2 := Tryd.isAgg2
  z2 := Tryd.sizeOf2
  v2 := Tryd.zeroValue2
  t3 := Tryd.underlying3
  a3 := Tryd.isAgg3
  z3 := Tryd.sizeOf3
  v3 := Tryd.zeroValue3
  t4 := Tryd.underlying4
  a4 := Tryd.isAgg4
  z4 := Tryd.sizeOf4
  v4 := Tryd.zeroValue4
  t5 := Tryd.underlying5
  a5 := Tryd.isAgg5
  z5 := Tryd.sizeOf5
  v5 := Tryd.zeroValue5
  t9 := Tryd.underlying9
  a9 := Tryd.isAgg9
  z9 := Tryd.sizeOf9
  v9 := Tryd.zeroValue9
  t20 := Tryd.underlying20
  a20 := Tryd.isAgg20
  z20 := Tryd.sizeOf20
  v20 := Tryd.zeroValue20
  t21 := Tryd.underlying21
  a21 := Tryd.isAgg21
  z21 := Tryd.sizeOf21
  v21 := Tryd.zeroValue21
  t37 := Tryd.underlying107
  a37 := Tryd.isAgg107
  z37 := Tryd.sizeOf107
  v37 := Tryd.zeroValue107
  t46 := Tryd.underlying103
  a46 := Tryd.isAgg103
  z46 := Tryd.sizeOf103
  v46 := Tryd.zeroValue103
  t51 := Tryd.underlying115
  a51 := Tryd.isAgg115
  z51 := Tryd.sizeOf115
  v51 := Tryd.zeroValue115
  t53 := Tryd.underlying97
  a53 := Tryd.isAgg97
  z53 := Tryd.sizeOf97
  v53 := Tryd.zeroValue97
  t75 := Tryd.underlying92
  a75 := Tryd.isAgg92
  z75 := Tryd.sizeOf92
  v75 := Tryd.zeroValue92
  t76 := Tryd.underlying93
  a76 := Tryd.isAgg93
  z76 := Tryd.sizeOf93
  v76 := Tryd.zeroValue93
  t85 := Tryd.underlying122
  a85 := Tryd.isAgg122
  z85 := Tryd.sizeOf122
  v85 := Tryd.zeroValue122
  t127 := Tryd.underlying118
  a127 := Tryd.isAgg118
  z127 := Tryd.sizeOf118
  v127 := Tryd.zeroValue118
  t143 := Tryd.underlying152
  a143 := Tryd.isAgg152
  z143 := Tryd.sizeOf152
  v143 := Tryd.zeroValue152
  t145 := Tryd.underlying154
  a145 := Tryd.isAgg154
  z145 := Tryd.sizeOf154
  v145 := Tryd.zeroValue154
  t167 := Tryd.underlying121
  a167 := Tryd.isAgg121
  z167 := Tryd.sizeOf121
  v167 := Tryd.zeroValue121
  t168 := Tryd.underlying124
  a168 := Tryd.isAgg124
  z168 := Tryd.sizeOf124
  v168 := Tryd.zeroValue124
  t171 := Tryd.underlying127
  a171 := Tryd.isAgg127
  z171 := Tryd.sizeOf127
  v171 := Tryd.zeroValue127
  t173 := Tryd.underlying129
  a173 := Tryd.isAgg129
  z173 := Tryd.sizeOf129
  v173 := Tryd.zeroValue129
  t175 := Tryd.underlying139
  a175 := Tryd.isAgg139
  z175 := Tryd.sizeOf139
  v175 := Tryd.zeroValue139
  t210 := Tryd.underlying143
  a210 := Tryd.isAgg143
  z210 := Tryd.sizeOf143
  v210 := Tryd.zeroValue143
  t212 := Tryd.underlying146
  a212 := Tryd.isAgg146
  z212 := Tryd.sizeOf146
  v212 := Tryd.zeroValue146
  t213 := Tryd.underlying147
  a213 := Tryd.isAgg147
  z213 := Tryd.sizeOf147
  t232 := Tryd.underlying159
  a232 := Tryd.isAgg159
  z232 := Tryd.sizeOf159
  v232 := Tryd.zeroValue159
  t233 := Tryd.underlying160
  a233 := Tryd.isAgg160
  z233 := Tryd.sizeOf160
  v233 := Tryd.zeroValue160
  g15 := by kernel_rfl
  g16 := by kernel_rfl
  g17 := by kernel_rfl
  g18 := by kernel_rfl
  g19 := by kernel_rfl
  t80 := Tryd.underlying111
  a80 := Tryd.isAgg111
  z80 := Tryd.sizeOf111
  v80 := Tryd.zeroValue111
  i0 := by kernel_rfl
  i2 := by kernel_rfl
  i3 := by kernel_rfl
  i4 := by kernel_rfl
  i5 := by kernel_rfl
  i9 := by kernel_rfl
  i20 := by kernel_rfl
  i21 := by kernel_rfl
  i37 := by kernel_rfl
  i46 := by kernel_rfl
  i51 := by kernel_rfl
  i53 := by kernel_rfl
  i75 := by kernel_rfl
  i76 := by kernel_rfl
  i80 := by kernel_rfl
  i85 := by kernel_rfl
  i127 := by kernel_rfl
  i143 := by kernel_rfl
  i145 := by kernel_rfl
  i167 := by kernel_rfl
  i168 := by kernel_rfl
  i171 := by kernel_rfl
  i173 := by kernel_rfl
  i175 := by kernel_rfl
  i210 := by kernel_rfl
  i212 := by kernel_rfl
  i232 := by kernel_rfl
  i233 := by kernel_rfl
  m15 := by kernel_rfl
  m16 := by kernel_rfl
  m17 := by kernel_rfl
  m18 := by kernel_rfl
  m19 := by kernel_rfl
  c0 := by kernel_rfl
  c2 := by kernel_rfl
  c3 := by kernel_rfl
  c4 := by kernel_rfl
  c5 := by kernel_rfl
  c9 := by kernel_rfl
  c20 := by kernel_rfl
  c21 := by kernel_rfl
  c37 := by kernel_rfl
  c46 := by kernel_rfl
  c51 := by kernel_rfl
  c53 := by kernel_rfl
  c75 := by kernel_rfl
  c76 := by kernel_rfl
  c80 := by kernel_rfl
  c85 := by kernel_rfl
  c127 := by kernel_rfl
  c143 := by kernel_rfl
  c145 := by kernel_rfl
  c167 := by kernel_rfl
  c168 := by kernel_rfl
  c171 := by kernel_rfl
  c173 := by kernel_rfl
  c175 := by kernel_rfl
  c210 := by kernel_rfl
  c212 := by kernel_rfl
  c213 := by kernel_rfl
  c232 := by kernel_rfl
  c233 := by kernel_rfl }
open Go.RowKit in
theorem Tryd.strconv_Atoi_ok (s : ByteArray) (hmax : s.size ≤ 9223372036854775806) (v : Int) (h : Lib.atoiAll s.data.toList = .ok v) (w : World) :
    Calls Tryd.prog 59 #[.string s] w fun e w' => e = .returned (.tuple #[.int .i64 v, .nilIface]) ∧ (w' = w ∨ ∃ t, w' = Lib.bytesWorld w 5 t) := Any.strconv_Atoi_ok Tryd.laysC172 s hmax v h w
open Go.RowKit in
theorem Tryd.strconv_Atoi_range (s : ByteArray) (hlim : s.size ≤ 281474976710656) (h : Lib.atoiAll s.data.toList = .range) (ev : Value) (w : World) (hv : w.cell? ⟨2, 0, none⟩ = some ev) (hev : ev = .nilIface ∨ ∃ te pe, ev = .iface te pe) :
    Calls Tryd.prog 59 #[.string s] w fun e w' => ∃ N, e = .returned (.tuple #[.int .i64 (Lib.atoiSat s.data.toList), .iface 124 (.pointer (some ⟨N, 0, none⟩))]) ∧ w.heap.size ≤ N ∧ w'.heap[N]? = some (.cells #[.string ⟨#[65, 116, 111, 105]⟩, .string s, ev] 143 (0, 0)) ∧ Below w.heap.size w w' := Any.strconv_Atoi_range Tryd.laysC172 s hlim h ev w hv hev
def Tryd.lays145_ren : Go.Shelf.Ren := ⟨fun | 145 => 57 | 220 => 76 | 219 => 88 | 217 => 103 | 225 => 104 | 224 => 105 | 267 => 106 | 266 => 115 | 314 => 116 | n => n, fun | 9 => 9 | 4 => 4 | 59 => 88 | 3 => 3 | 5 => 5 | 46 => 103 | 146 => 149 | 51 => 115 | n => n, fun | 1 => 0 | n => n⟩
theorem Tryd.lays145 : Go.Proofs.Lays.n145 Tryd.prog Tryd.lays145_ren := {
  mixed := by kernel_rfl
  f145 := Tryd.func57.trans (congrArg some (by kernel_rfl))
  f217 := Tryd.func103.trans (congrArg some (by kernel_rfl))
  f219 := Tryd.func88.trans (congrArg some (by kernel_rfl))
  f220 := Tryd.func76.trans (congrArg some (by kernel_rfl))
  f224 := Tryd.func105.trans (congrArg some (by kernel_rfl))
  f225 := Tryd.func104.trans (congrArg some (by kernel_rfl))
  f266 := Tryd.func115.trans (congrArg some (by kernel_rfl))
  f267 := Tryd.func106.trans (congrArg some (by kernel_rfl))
  f314 := Tryd.func116.trans (congrArg some (by kernel_rfl))
  t3 := Tryd.underlying3
  a3 := Tryd.isAgg3
  z3 := Tryd.sizeOf3
  v3 := Tryd.zeroValue3
  t4 := Tryd.underlying4
  a4 := Tryd.isAgg4
  z4 := Tryd.sizeOf4
  v4 := Tryd.zeroValue4
  t5 := Tryd.underlying5
  a5 := Tryd.isAgg5
  z5 := Tryd.sizeOf5
  v5 := Tryd.zeroValue5
  t9 := Tryd.underlying9
  a9 := Tryd.isAgg9
  z9 := Tryd.sizeOf9
  v9 := Tryd.zeroValue9
  t46 := Tryd.underlying103
  a46 := Tryd.isAgg103
  z46 := Tryd.sizeOf103
  v46 := Tryd.zeroValue103
  t51 := Tryd.underlying115
  a51 := Tryd.isAgg115
  z51 := Tryd.sizeOf115
  v51 := Tryd.zeroValue115
  t59 := Tryd.underlying88
  a59 := Tryd.isAgg88
  z59 := Tryd.sizeOf88
  v59 := Tryd.zeroValue88
  t146 := Tryd.underlying149
  a146 := Tryd.isAgg149
  z146 := Tryd.sizeOf149
  v146 := Tryd.zeroValue149
  g1 := by kernel_rfl }
open Go.RowKit Go.Lib in
theorem Tryd.strings_Cut (s sep : ByteArray) (m : Int) (w : World) (hs : s.size < 4294967281) (hm : w.cell? ⟨0, 0, none⟩ = some (.int .i64 m)) :
    Calls Tryd.prog 57 #[.string s, .string sep] w fun e w' => e = .returned (.tuple #[.string ⟨(Lib.cut s.data.toList sep.data.toList).1.toArray⟩, .string ⟨(Lib.cut s.data.toList sep.data.toList).2.1.toArray⟩, .bool (Lib.cut s.data.toList sep.data.toList).2.2]) ∧ ∃ n, w' = w.drewN n := Any.strings_Cut Tryd.lays145 s sep m w hs hm
def Tryd.lays146_ren : Go.Shelf.Ren := ⟨fun | 146 => 56 | 221 => 75 | 268 => 85 | 138 => 86 | 143 => 87 | 195 => 100 | 197 => 101 | 218 => 102 | 219 => 88 | 260 => 114 | 217 => 103 | 225 => 104 | 224 => 105 | 267 => 106 | 266 => 115 | 314 => 116 | n => n, fun | 9 => 9 | 31 => 84 | 3 => 3 | 4 => 4 | 0 => 0 | 105 => 135 | 21 => 21 | 5 => 5 | 46 => 103 | 119 => 155 | 139 => 158 | 138 => 157 | 146 => 149 | 51 => 115 | n => n, fun | 1 => 0 | 3 => 4 | 4 => 5 | n => n⟩
theorem Tryd.lays146 : Go.Proofs.Lays.n146 Tryd.prog Tryd.lays146_ren := {
  mixed := by kernel_rfl
  f138 := Tryd.func86.trans (congrArg some (by kernel_rfl))
  f143 := Tryd.func87.trans (congrArg some (by kernel_rfl))
  f146 := Tryd.func56.trans (congrArg some (by kernel_rfl))
  f195 := Tryd.func100.trans (congrArg some (by kernel_rfl))
  f197 := Tryd.func101.trans (congrArg some (by kernel_rfl))
  f217 := Tryd.func103.trans (congrArg some (by kernel_rfl))
  f218 := Tryd.func102.trans (congrArg some (by kernel_rfl))
  f219 := Tryd.func88.trans (congrArg some (by kernel_rfl))
  f221 := Tryd.func75.trans (congrArg some (by kernel_rfl))
  f224 := Tryd.func105.trans (congrArg some (by kernel_rfl))
  f225 := Tryd.func104.trans (congrArg some (by kernel_rfl))
  f260 := Tryd.func114.trans (congrArg some (by kernel_rfl))
  f266 := Tryd.func115.trans (congrArg some (by kernel_rfl))
  f267 := Tryd.func106.trans (congrArg some (by kernel_rfl))
  f268 := Tryd.func85.trans (congrArg some (by kernel_rfl))
  f314 := Tryd.func116.trans (congrArg some (by kernel_rfl))
  t0 := Tryd.underlying0
  a0 := Tryd.isAgg0
  z0 := Tryd.sizeOf0
  v0 := Tryd.zeroValue0
  t3 := Tryd.underlying3
  a3 := Tryd.isAgg3
  z3 := Tryd.sizeOf3
  v3 := Tryd.zeroValue3
  t4 := Tryd.underlying4
  a4 := Tryd.isAgg4
  z4 := Tryd.sizeOf4
  v4 := Tryd.zeroValue4
  t5 := Tryd.underlying5
  a5 := Tryd.isAgg5
  z5 := Tryd.sizeOf5
  v5 := Tryd.zeroValue5
  t9 := Tryd.underlying9
  a9 := Tryd.isAgg9
  z9 := Tryd.sizeOf9
  v9 := Tryd.zeroValue9
  t21 := Tryd.underlying21
  a21 := Tryd.isAgg21
  z21 := Tryd.sizeOf21
  v21 := Tryd.zeroValue21
  t31 := Tryd.underlying84
  a31 := Tryd.isAgg84
  z31 := Tryd.sizeOf84
  v31 := Tryd.zeroValue84
  t46 := Tryd.underlying103
  a46 := Tryd.isAgg103
  z46 := Tryd.sizeOf103
  v46 := Tryd.zeroValue103
  t51 := Tryd.underlying115
  a51 := Tryd.isAgg115
  z51 := Tryd.sizeOf115
  v51 := Tryd.zeroValue115
  t105 := Tryd.underlying135
  a105 := Tryd.isAgg135
  z105 := Tryd.sizeOf135
  v105 := Tryd.zeroValue135
  t119 := Tryd.underlying155
  a119 := Tryd.isAgg155
  z119 := Tryd.sizeOf155
  t138 := Tryd.underlying157
  a138 := Tryd.isAgg157
  z138 := Tryd.sizeOf157
  v138 := Tryd.zeroValue157
  t139 := Tryd.underlying158
  a139 := Tryd.isAgg158
  z139 := Tryd.sizeOf158
  v139 := Tryd.zeroValue158
  t146 := Tryd.underlying149
  a146 := Tryd.isAgg149
  z146 := Tryd.sizeOf149
  v146 := Tryd.zeroValue149
  g1 := by kernel_rfl
  g3 := by kernel_rfl
  g4 := by kernel_rfl }
open Go.RowKit Go.Lib in
theorem Tryd.strings_Split (s sep : ByteArray) (m : Int) (w : World) (hs : s.size < 4294967281) (hm : w.cell? ⟨0, 0, none⟩ = some (.int .i64 m)) (h1 : 1 ≤ sep.size) :
    Calls Tryd.prog 56 #[.string s, .string sep] w fun e w' =>
      e = .returned (.slice (some ⟨w.heap.size, 0, none⟩) (Lib.countB s sep + 1) (Lib.countB s sep + 1)) ∧ w' = w.alloc (.cells ((Lib.splitB sep 0 (Lib.countB s sep) s).map Value.string).toArray 9) := Any.strings_Split Tryd.lays146 (by kernel_rfl) s sep m w hs hm h1
end Go.Proofs
