/-
  Contracts of Go's library at this seat's own numbers: laid by the kit's shelf (its plain mode), cut down to what is used.
-/
import Derived.Test.YtghdimmomnfakaaGreatDoorShelf
import Derived.Shelf.Strings.Builder1
import Derived.Shelf.Strings.Builder2
import Derived.Shelf.Utf8.RuneCount
import Derived.Shelf.Strconv.Atoi
import Derived.Shelf.Strconv.Itoa0
import Derived.Shelf.Strconv.Itoa1
import Derived.Shelf.LaysM
import Derived.Shelf.Strconv.Itoa2
import Derived.Shelf.Strconv.Itoa3
import Derived.Shelf.Strconv.AtoiErrFast
import Derived.Shelf.Strconv.ParseIntEmpty
import Derived.Shelf.Strconv.AtoiFail
import Derived.Shelf.Strconv.Clone
import Derived.Shelf.Strconv.SyntaxError
import Derived.Shelf.LaysC
import Derived.Shelf.Strconv.ToError
import Derived.Shelf.Strconv.Lower
import Derived.Shelf.Strconv.ParseUint10
import Derived.Shelf.Strconv.ParseUint10Empty
import Derived.Shelf.Strconv.ParseUint10Any
import Derived.Shelf.Strconv.ParseInt10
import Derived.Shelf.Strconv.AtoiLong
import Derived.Shelf.Strconv.AtoiInnerAll
import Derived.Shelf.Strconv.RangeError
import Derived.Shelf.Strconv.ToErrorRange
import Derived.Shelf.Strconv.AtoiAll
import Derived.Shelf.Strings.Search1
import Derived.Shelf.Strings.Search2
import Derived.Shelf.Strings.Search3
import Derived.Shelf.Strings.Cut
import Derived.Shelf.Strings.Count
import Derived.Shelf.Strings.Shaped
import Derived.Shelf.Strings.Split
import Derived.Shelf.Strings.SplitShaped
import Derived.Shelf.Unicode.Decode
import Derived.Shelf.Strings.RuneCount
import Derived.Shelf.Strings.Explode
import Derived.Shelf.Unicode.DecodeSlow
import Derived.Shelf.Unicode.DecodeAny
import Derived.Test.YtghdimmomnfakaaGreatDoorProg
import Derived.Lib.Split
import Derived.Lib.CountLaws
import Derived.Lib.CutLaws
import Derived.Lib.IndexBytes
import Derived.Lib.IndexLaws
import Derived.Lib.Join
import Derived.Test.YtghdimmomnfakaaGreatDoorGvA
import Derived.Test.YtghdimmomnfakaaGreatDoorGvLine
import Derived.Test.YtghdimmomnfakaaGreatDoorXx1
import Derived.Test.YtghdimmomnfakaaGreatDoorXx2
import Derived.Test.YtghdimmomnfakaaGreatDoorXx3
import Derived.Test.YtghdimmomnfakaaGreatDoorXx4
import Derived.Test.YtghdimmomnfakaaGreatDoorXx5
import Derived.Test.YtghdimmomnfakaaGreatDoorXx6
import Derived.Test.YtghdimmomnfakaaGreatDoorGvValid
import Derived.Test.YtghdimmomnfakaaGreatDoorTextA
import Derived.Lib.ItoaLen
namespace Go.Proofs
open Go.Shelf
def Tryz.laysC172_ren : Go.Shelf.Ren := ⟨fun | 172 => 42 | 244 => 61 | 245 => 62 | 247 => 77 | 279 => 78 | 280 => 79 | 281 => 80 | 282 => 81 | 287 => 89 | 316 => 90 | 171 => 36 | 205 => 91 | 321 => 97 | 322 => 98 | 243 => 48 | 246 => 69 | 283 => 83 | 284 => 84 | 285 => 85 | 286 => 86 | 129 => 93 | 317 => 92 | 318 => 94 | 319 => 95 | 320 => 96 | 337 => 99 | 338 => 100 | n => n, fun | 9 => 9 | 3 => 3 | 75 => 47 | 76 => 48 | 4 => 4 | 5 => 5 | 167 => 93 | 37 => 43 | 0 => 0 | 85 => 94 | 2 => 2 | 168 => 96 | 53 => 101 | 175 => 107 | 46 => 81 | 210 => 111 | 127 => 69 | 145 => 125 | 143 => 123 | 21 => 21 | 171 => 100 | 173 => 104 | 212 => 114 | 51 => 88 | 20 => 20 | 213 => 115 | 232 => 127 | 233 => 128 | 80 => 51 | n => n, fun | 15 => 1 | 16 => 2 | 17 => 3 | 18 => 6 | 19 => 7 | n => n⟩
theorem Tryz.laysC172 : Go.Proofs.LaysC.n172 Tryz.prog Tryz.laysC172_ren := {
  mixed := by kernel_rfl
  f129 := Tryz.func93.trans (congrArg some (by kernel_rfl))
  f171 := Tryz.func36.trans (congrArg some (by kernel_rfl))
  f172 := Tryz.func42.trans (congrArg some (by kernel_rfl))
  f205 := Tryz.func91.trans (congrArg some (by kernel_rfl))
  f243 := Tryz.func48.trans (congrArg some (by kernel_rfl))
  f244 := Tryz.func61.trans (congrArg some (by kernel_rfl))
  f245 := Tryz.func62.trans (congrArg some (by kernel_rfl))
  f246 := Tryz.func69.trans (congrArg some (by kernel_rfl))
  f247 := Tryz.func77.trans (congrArg some (by kernel_rfl))
  f279 := Tryz.func78.trans (congrArg some (by kernel_rfl))
  f280 := Tryz.func79.trans (congrArg some (by kernel_rfl))
  f281 := Tryz.func80.trans (congrArg some (by kernel_rfl))
  f282 := Tryz.func81.trans (congrArg some (by kernel_rfl))
  f283 := Tryz.func83.trans (congrArg some (by kernel_rfl))
  f284 := Tryz.func84.trans (congrArg some (by kernel_rfl))
  f285 := Tryz.func85.trans (congrArg some (by kernel_rfl))
  f286 := Tryz.func86.trans (congrArg some (by kernel_rfl))
  f287 := Tryz.func89.trans (congrArg some (by kernel_rfl))
  f316 := Tryz.func90.trans (congrArg some (by kernel_rfl))
  f317 := Tryz.func92.trans (congrArg some (by kernel_rfl))
  f318 := Tryz.func94.trans (congrArg some (by kernel_rfl))
  f319 := Tryz.func95.trans (congrArg some (by kernel_rfl))
  f320 := Tryz.func96.trans (congrArg some (by kernel_rfl))
  f321 := Tryz.func97.trans (congrArg some (by kernel_rfl))
  f322 := Tryz.func98.trans (congrArg some (by kernel_rfl))
  f337 := Tryz.func99.trans (congrArg some (by kernel_rfl))
  f338 := Tryz.func100.trans (congrArg some (by kernel_rfl))
  t0 := Tryz.underlying0
  a0 := Tryz.isAgg0
  z0 := Tryz.sizeOf0
  v0 := Tryz.zeroValue0
  t2 := Tryz.underlying2
  a2 := Tryz.isAgg2
  z2 := Tryz.sizeOf2
  v2 := Tryz.zeroValue2
  t3 := Tryz.underlying3
  a3 := Tryz.isAgg3
  z3 := Tryz.sizeOf3
  v3 := Tryz.zeroValue3
  t4 := Tryz.underlying4
  a4 := Tryz.isAgg4
  z4 := Tryz.sizeOf4
  v4 := Tryz.zeroValue4
  t5 := Tryz.underlying5
  a5 := Tryz.isAgg5
  z5 := Tryz.sizeOf5
  v5 := Tryz.zeroValue5
  t9 := Tryz.underlying9
  a9 := Tryz.isAgg9
  z9 := Tryz.sizeOf9
  v9 := Tryz.zeroValue9
  t20 := Tryz.underlying20
  a20 := Tryz.isAgg20
  z20 := Tryz.sizeOf20
  v20 := Tryz.zeroValue20
  t21 := Tryz.underlying21
  a21 := Tryz.isAgg21
  z21 := Tryz.sizeOf21
  v21 := Tryz.zeroValue21
  t37 := Tryz.underlying43
  a37 := Tryz.isAgg43
  z37 := Tryz.sizeOf43
  v37 := Tryz.zeroValue43
  t46 := Tryz.underlying81
  a46 := Tryz.isAgg81
  z46 := Tryz.sizeOf81
  v46 := Tryz.zeroValue81
  t51 := Tryz.underlying88
  a51 := Tryz.isAgg88
  z51 := Tryz.sizeOf88
  v51 := Tryz.zeroValue88
  t53 := Tryz.underlying101
  a53 := Tryz.isAgg101
  z53 := Tryz.sizeOf101
  v53 := Tryz.zeroValue101
  t75 := Tryz.underlying47
  a75 := Tryz.isAgg47
  z75 := Tryz.sizeOf47
  v75 := Tryz.zeroValue47
  t76 := Tryz.underlying48
  a76 := Tryz.isAgg48
  z76 := Tryz.sizeOf48
  v76 := Tryz.zeroValue48
  t85 := Tryz.underlying94
  a85 := Tryz.isAgg94
  z85 := Tryz.sizeOf94
  v85 := Tryz.zeroValue94
  t127 := Tryz.underlying69
  a127 := Tryz.isAgg69
  z127 := Tryz.sizeOf69
  v127 := Tryz.zeroValue69
  t143 := Tryz.underlying123
  a143 := Tryz.isAgg123
  z143 := Tryz.sizeOf123
  v143 := Tryz.zeroValue123
  t145 := Tryz.underlying125
  a145 := Tryz.isAgg125
  z145 := Tryz.sizeOf125
  v145 := Tryz.zeroValue125
  t167 := Tryz.underlying93
  a167 := Tryz.isAgg93
  z167 := Tryz.sizeOf93
  v167 := Tryz.zeroValue93
  t168 := Tryz.underlying96
  a168 := Tryz.isAgg96
  z168 := Tryz.sizeOf96
  v168 := Tryz.zeroValue96
  t171 := Tryz.underlying100
  a171 := Tryz.isAgg100
  z171 := Tryz.sizeOf100
  v171 := Tryz.zeroValue100
  t173 := Tryz.underlying104
  a173 := Tryz.isAgg104
  z173 := Tryz.sizeOf104
  v173 := Tryz.zeroValue104
  t175 := Tryz.underlying107
  a175 := Tryz.isAgg107
  z175 := Tryz.sizeOf107
  v175 := Tryz.zeroValue107
  t210 := Tryz.underlying111
  a210 := Tryz.isAgg111
  z210 := Tryz.sizeOf111
  v210 := Tryz.zeroValue111
  t212 := Tryz.underlying114
  a212 := Tryz.isAgg114
  z212 := Tryz.sizeOf114
  v212 := Tryz.zeroValue114
  t213 := Tryz.underlying115
  a213 := Tryz.isAgg115
  z213 := Tryz.sizeOf115
  t232 := Tryz.underlying127
  a232 := Tryz.isAgg127
  z232 := Tryz.sizeOf127
  v232 := Tryz.zeroValue127
  t233 := Tryz.underlying128
  a233 := Tryz.isAgg128
  z233 := Tryz.sizeOf128
  v233 := Tryz.zeroValue128
  g15 := by kernel_rfl
  g16 := by kernel_rfl
  g17 := by kernel_rfl
  g18 := by kernel_rfl
  g19 := by kernel_rfl
  t80 := Tryz.underlying51
  a80 := Tryz.isAgg51
  z80 := Tryz.sizeOf51
  v80 := Tryz.zeroValue51
  i0 := by kernel_rfl
  i2 := by kernel_rfl
  i3 := by kernel_rfl
  i4 := by kernel_rfl
  i5 := by kernel_rfl
  i9 := by kernel_rfl
  i20 := by kernel_rfl
  i21 := by kernel_rfl
  i37 := by kernel_rfl
  i46 := by kernel_rfl
  i51 := by kernel_rfl
  i53 := by kernel_rfl
  i75 := by kernel_rfl
  i76 := by kernel_rfl
  i80 := by kernel_rfl
  i85 := by kernel_rfl
  i127 := by kernel_rfl
  i143 := by kernel_rfl
  i145 := by kernel_rfl
  i167 := by kernel_rfl
  i168 := by kernel_rfl
  i171 := by kernel_rfl
  i173 := by kernel_rfl
  i175 := by kernel_rfl
  i210 := by kernel_rfl
  i212 := by kernel_rfl
  i232 := by kernel_rfl
  i233 := by kernel_rfl
  m15 := by kernel_rfl
  m16 := by kernel_rfl
  m17 := by kernel_rfl
  m18 := by kernel_rfl
  m19 := by kernel_rfl
  c0 := by kernel_rfl
  c2 := by kernel_rfl
  c3 := by kernel_rfl
  c4 := by kernel_rfl
  c5 := by kernel_rfl
  c9 := by kernel_rfl
  c20 := by kernel_rfl
  c21 := by kernel_rfl
  c37 := by kernel_rfl
  c46 := by kernel_rfl
  c51 := by kernel_rfl
  c53 := by kernel_rfl
  c75 := by kernel_rfl
  c76 := by kernel_rfl
  c80 := by kernel_rfl
  c85 := by kernel_rfl
  c127 := by kernel_rfl
  c143 := by kernel_rfl
  c145 := by kernel_rfl
  c167 := by kernel_rfl
  c168 := by kernel_rfl
  c171 := by kernel_rfl
  c173 := by kernel_rfl
  c175 := by kernel_rfl
  c210 := by kernel_rfl
  c212 := by kernel_rfl
  c213 := by kernel_rfl
  c232 := by kernel_rfl
  c233 := by kernel_rfl }
open Go.RowKit in
theorem Tryz.strconv_Atoi_ok (s : ByteArray) (hmax : s.size ≤ 9223372036854775806) (v : Int) (h : Lib.atoiAll s.data.toList = .ok v) (w : World) :
    Calls Tryz.prog 42 #[.string s] w fun e w' => e = .returned (.tuple #[.int .i64 v, .nilIface]) ∧ (w' = w ∨ ∃ t, w' = Lib.bytesWorld w 5 t) := Any.strconv_Atoi_ok Tryz.laysC172 s hmax v h w
open Go.RowKit in
theorem Tryz.strconv_Atoi_range (s : ByteArray) (hlim : s.size ≤ 281474976710656) (h : Lib.atoiAll s.data.toList = .range) (ev : Value) (w : World) (hv : w.cell? ⟨2, 0, none⟩ = some ev) (hev : ev = .nilIface ∨ ∃ te pe, ev = .iface te pe) :
    Calls Tryz.prog 42 #[.string s] w fun e w' => ∃ N, e = .returned (.tuple #[.int .i64 (Lib.atoiSat s.data.toList), .iface 96 (.pointer (some ⟨N, 0, none⟩))]) ∧ w.heap.size ≤ N ∧ w'.heap[N]? = some (.cells #[.string ⟨#[65, 116, 111, 105]⟩, .string s, ev] 111 (0, 0)) ∧ Below w.heap.size w w' := Any.strconv_Atoi_range Tryz.laysC172 s hlim h ev w hv hev
def Tryz.lays145_ren : Go.Shelf.Ren := ⟨fun | 145 => 10 | 220 => 23 | 219 => 40 | 217 => 54 | 225 => 55 | 224 => 56 | 267 => 57 | 266 => 72 | 314 => 73 | n => n, fun | 9 => 9 | 4 => 4 | 59 => 33 | 3 => 3 | 5 => 5 | 46 => 81 | 146 => 89 | 51 => 88 | n => n, fun | 1 => 0 | n => n⟩
theorem Tryz.lays145 : Go.Proofs.Lays.n145 Tryz.prog Tryz.lays145_ren := {
  mixed := by kernel_rfl
  f145 := Tryz.func10.trans (congrArg some (by kernel_rfl))
  f217 := Tryz.func54.trans (congrArg some (by kernel_rfl))
  f219 := Tryz.func40.trans (congrArg some (by kernel_rfl))
  f220 := Tryz.func23.trans (congrArg some (by kernel_rfl))
  f224 := Tryz.func56.trans (congrArg some (by kernel_rfl))
  f225 := Tryz.func55.trans (congrArg some (by kernel_rfl))
  f266 := Tryz.func72.trans (congrArg some (by kernel_rfl))
  f267 := Tryz.func57.trans (congrArg some (by kernel_rfl))
  f314 := Tryz.func73.trans (congrArg some (by kernel_rfl))
  t3 := Tryz.underlying3
  a3 := Tryz.isAgg3
  z3 := Tryz.sizeOf3
  v3 := Tryz.zeroValue3
  t4 := Tryz.underlying4
  a4 := Tryz.isAgg4
  z4 := Tryz.sizeOf4
  v4 := Tryz.zeroValue4
  t5 := Tryz.underlying5
  a5 := Tryz.isAgg5
  z5 := Tryz.sizeOf5
  v5 := Tryz.zeroValue5
  t9 := Tryz.underlying9
  a9 := Tryz.isAgg9
  z9 := Tryz.sizeOf9
  v9 := Tryz.zeroValue9
  t46 := Tryz.underlying81
  a46 := Tryz.isAgg81
  z46 := Tryz.sizeOf81
  v46 := Tryz.zeroValue81
  t51 := Tryz.underlying88
  a51 := Tryz.isAgg88
  z51 := Tryz.sizeOf88
  v51 := Tryz.zeroValue88
  t59 := Tryz.underlying33
  a59 := Tryz.isAgg33
  z59 := Tryz.sizeOf33
  v59 := Tryz.zeroValue33
  t146 := Tryz.underlying89
  a146 := Tryz.isAgg89
  z146 := Tryz.sizeOf89
  v146 := Tryz.zeroValue89
  g1 := by kernel_rfl }
open Go.RowKit Go.Lib in
theorem Tryz.strings_Cut (s sep : ByteArray) (m : Int) (w : World) (hs : s.size < 4294967281) (hm : w.cell? ⟨0, 0, none⟩ = some (.int .i64 m)) :
    Calls Tryz.prog 10 #[.string s, .string sep] w fun e w' => e = .returned (.tuple #[.string ⟨(Lib.cut s.data.toList sep.data.toList).1.toArray⟩, .string ⟨(Lib.cut s.data.toList sep.data.toList).2.1.toArray⟩, .bool (Lib.cut s.data.toList sep.data.toList).2.2]) ∧ ∃ n, w' = w.drewN n := Any.strings_Cut Tryz.lays145 s sep m w hs hm
def Tryz.lays146_ren : Go.Shelf.Ren := ⟨fun | 146 => 24 | 221 => 41 | 268 => 58 | 138 => 59 | 143 => 60 | 195 => 74 | 197 => 75 | 218 => 76 | 219 => 40 | 260 => 88 | 217 => 54 | 225 => 55 | 224 => 56 | 267 => 57 | 266 => 72 | 314 => 73 | n => n, fun | 9 => 9 | 31 => 40 | 3 => 3 | 4 => 4 | 0 => 0 | 105 => 91 | 21 => 21 | 5 => 5 | 46 => 81 | 119 => 118 | 139 => 121 | 138 => 120 | 146 => 89 | 51 => 88 | n => n, fun | 1 => 0 | 3 => 4 | 4 => 5 | n => n⟩
theorem Tryz.lays146 : Go.Proofs.Lays.n146 Tryz.prog Tryz.lays146_ren := {
  mixed := by kernel_rfl
  f138 := Tryz.func59.trans (congrArg some (by kernel_rfl))
  f143 := Tryz.func60.trans (congrArg some (by kernel_rfl))
  f146 := Tryz.func24.trans (congrArg some (by kernel_rfl))
  f195 := Tryz.func74.trans (congrArg some (by kernel_rfl))
  f197 := Tryz.func75.trans (congrArg some (by kernel_rfl))
  f217 := Tryz.func54.trans (congrArg some (by kernel_rfl))
  f218 := Tryz.func76.trans (congrArg some (by kernel_rfl))
  f219 := Tryz.func40.trans (congrArg some (by kernel_rfl))
  f221 := Tryz.func41.trans (congrArg some (by kernel_rfl))
  f224 := Tryz.func56.trans (congrArg some (by kernel_rfl))
  f225 := Tryz.func55.trans (congrArg some (by kernel_rfl))
  f260 := Tryz.func88.trans (congrArg some (by kernel_rfl))
  f266 := Tryz.func72.trans (congrArg some (by kernel_rfl))
  f267 := Tryz.func57.trans (congrArg some (by kernel_rfl))
  f268 := Tryz.func58.trans (congrArg some (by kernel_rfl))
  f314 := Tryz.func73.trans (congrArg some (by kernel_rfl))
  t0 := Tryz.underlying0
  a0 := Tryz.isAgg0
  z0 := Tryz.sizeOf0
  v0 := Tryz.zeroValue0
  t3 := Tryz.underlying3
  a3 := Tryz.isAgg3
  z3 := Tryz.sizeOf3
  v3 := Tryz.zeroValue3
  t4 := Tryz.underlying4
  a4 := Tryz.isAgg4
  z4 := Tryz.sizeOf4
  v4 := Tryz.zeroValue4
  t5 := Tryz.underlying5
  a5 := Tryz.isAgg5
  z5 := Tryz.sizeOf5
  v5 := Tryz.zeroValue5
  t9 := Tryz.underlying9
  a9 := Tryz.isAgg9
  z9 := Tryz.sizeOf9
  v9 := Tryz.zeroValue9
  t21 := Tryz.underlying21
  a21 := Tryz.isAgg21
  z21 := Tryz.sizeOf21
  v21 := Tryz.zeroValue21
  t31 := Tryz.underlying40
  a31 := Tryz.isAgg40
  z31 := Tryz.sizeOf40
  v31 := Tryz.zeroValue40
  t46 := Tryz.underlying81
  a46 := Tryz.isAgg81
  z46 := Tryz.sizeOf81
  v46 := Tryz.zeroValue81
  t51 := Tryz.underlying88
  a51 := Tryz.isAgg88
  z51 := Tryz.sizeOf88
  v51 := Tryz.zeroValue88
  t105 := Tryz.underlying91
  a105 := Tryz.isAgg91
  z105 := Tryz.sizeOf91
  v105 := Tryz.zeroValue91
  t119 := Tryz.underlying118
  a119 := Tryz.isAgg118
  z119 := Tryz.sizeOf118
  t138 := Tryz.underlying120
  a138 := Tryz.isAgg120
  z138 := Tryz.sizeOf120
  v138 := Tryz.zeroValue120
  t139 := Tryz.underlying121
  a139 := Tryz.isAgg121
  z139 := Tryz.sizeOf121
  v139 := Tryz.zeroValue121
  t146 := Tryz.underlying89
  a146 := Tryz.isAgg89
  z146 := Tryz.sizeOf89
  v146 := Tryz.zeroValue89
  g1 := by kernel_rfl
  g3 := by kernel_rfl
  g4 := by kernel_rfl }
open Go.RowKit Go.Lib in
theorem Tryz.strings_Split (s sep : ByteArray) (m : Int) (w : World) (hs : s.size < 4294967281) (hm : w.cell? ⟨0, 0, none⟩ = some (.int .i64 m)) (h1 : 1 ≤ sep.size) :
    Calls Tryz.prog 24 #[.string s, .string sep] w fun e w' =>
      e = .returned (.slice (some ⟨w.heap.size, 0, none⟩) (Lib.countB s sep + 1) (Lib.countB s sep + 1)) ∧ w' = w.alloc (.cells ((Lib.splitB sep 0 (Lib.countB s sep) s).map Value.string).toArray 9) := Any.strings_Split Tryz.lays146 (by kernel_rfl) s sep m w hs hm h1
end Go.Proofs

set_option linter.unusedVariables false
namespace Go.Proofs.YtghdimmomnfakaaGreatDoor.Spl
/-- the parts of a list between bytes of a kind -/
def splitL (c : UInt8) : List UInt8 → List (List UInt8)
  | [] => [[]]
  | x :: r => if x = c then [] :: splitL c r else match splitL c r with
    | [] => [[x]]
    | p :: q => (x :: p) :: q
theorem splitL_ne (c : UInt8) (l : List UInt8) : splitL c l ≠ [] := by
  cases l with
  | nil => simp [splitL]
  | cons x r =>
    unfold splitL
    split
    · simp
    · split <;> simp
theorem splitL_none {c : UInt8} : ∀ {a : List UInt8}, c ∉ a → splitL c a = [a]
  | [], _ => rfl
  | x :: r, h => by
    have hx : ¬ x = c := fun e => h (by simp [e])
    rw [splitL, if_neg hx, splitL_none (fun e => h (by simp [e]))]
theorem splitL_cut {c : UInt8} (b : List UInt8) : ∀ {a : List UInt8}, c ∉ a → splitL c (a ++ c :: b) = a :: splitL c b
  | [], _ => by simp [splitL]
  | x :: r, h => by
    have hx : ¬ x = c := fun e => h (by simp [e])
    rw [List.cons_append, splitL, if_neg hx, splitL_cut b (fun e => h (by simp [e]))]
theorem splitL_free {c : UInt8} : ∀ {l : List UInt8}, ∀ p ∈ splitL c l, c ∉ p
  | [], p, hp => by simp [splitL] at hp; subst hp; simp
  | x :: r, p, hp => by
    rw [splitL] at hp
    split at hp
    · rcases List.mem_cons.1 hp with rfl | hp
      · simp
      · exact splitL_free p hp
    · rename_i hx
      have hr := splitL_free (l := r) (c := c)
      generalize splitL c r = s at hp hr
      match s with
      | [] => simp at hp; subst hp; simpa using fun e : c = x => hx e.symm
      | q :: t =>
        rcases List.mem_cons.1 hp with rfl | hp
        · have := hr q (by simp)
          intro e
          rcases List.mem_cons.1 e with e | e
          · exact hx e.symm
          · exact this e
        · exact hr p (by simp [hp])
theorem splitL_join {c : UInt8} : ∀ (ps : List (List UInt8)), ps ≠ [] → (∀ p ∈ ps, c ∉ p) → splitL c (Lib.join ps [c]) = ps
  | [], h, _ => absurd rfl h
  | [p], _, h => by rw [Lib.join_one, splitL_none (h p (by simp))]
  | p :: q :: r, _, h => by
    have ih := splitL_join (q :: r) (by simp) (fun x hx => h x (by simp [hx]))
    rw [Lib.join_cons] at ih ⊢
    rw [Lib.joinTail, List.map_cons, List.flatten_cons, List.append_assoc, List.singleton_append, ← Lib.joinTail, splitL_cut _ (h p (by simp)), ih]
theorem join_splitL (c : UInt8) : ∀ l : List UInt8, Lib.join (splitL c l) [c] = l
  | [] => rfl
  | x :: r => by
    have ih := join_splitL c r
    have hne := splitL_ne c r
    rw [splitL]
    generalize splitL c r = s at ih hne
    match s with
    | [] => exact absurd rfl hne
    | p :: q =>
      rw [Lib.join_cons] at ih
      split
      · rename_i e
        rw [Lib.join_cons, Lib.joinTail, List.map_cons, List.flatten_cons, ← Lib.joinTail]
        simp [e, ih]
      · show Lib.join ((x :: p) :: q) [c] = x :: r
        rw [Lib.join_cons, List.cons_append, ih]
/-- where the first such byte is -/
theorem index_hit {l : List UInt8} {c : UInt8} {i : Nat} (h : Lib.index l [c] = i) : l = l.take i ++ c :: l.drop (i + 1) ∧ c ∉ l.take i := by
  rw [Lib.index_one] at h
  obtain ⟨h1, h2⟩ := Lib.indexByte_some h
  have hi : i < l.length := (List.getElem?_eq_some_iff.1 h1).1
  have h3 : l[i] = c := (List.getElem?_eq_some_iff.1 h1).2
  refine ⟨?_, fun hc => ?_⟩
  · conv => lhs; rw [← List.take_append_drop i l, List.drop_eq_getElem_cons hi, h3]
  · obtain ⟨k, hk, e⟩ := List.getElem_of_mem hc
    have hk' : k < i := by simp at hk; omega
    exact h2 k hk' (by rw [List.getElem?_eq_getElem (by omega), ← e]; simp)
theorem index_miss {l : List UInt8} {c : UInt8} (h : Lib.index l [c] = -1) : c ∉ l := by
  rw [Lib.index_one] at h
  intro hc
  obtain ⟨k, hk, e⟩ := List.getElem_of_mem hc
  exact Lib.indexByte_none h k (by rw [List.getElem?_eq_getElem hk, e])
theorem index_ways (l : List UInt8) (c : UInt8) : Lib.index l [c] = -1 ∨ ∃ i : Nat, Lib.index l [c] = i := by
  have := Lib.index_ge l [c]
  by_cases h : Lib.index l [c] = -1
  · exact .inl h
  · exact .inr ⟨(Lib.index l [c]).toNat, by omega⟩
theorem splitK_eq (c : UInt8) : ∀ (n : Nat) (l : List UInt8), l.length ≤ n → Lib.splitK [c] 0 (Lib.count l [c]) l = splitL c l
  | n, l, hn => by
    rcases index_ways l c with h | ⟨i, h⟩
    · rw [Lib.count_miss h, splitL_none (index_miss h)]; rfl
    · obtain ⟨h1, h2⟩ := index_hit h
      have hil : i < l.length := by
        have := congrArg List.length h1
        simp at this; omega
      obtain ⟨n, rfl⟩ : ∃ m, n = m + 1 := ⟨n - 1, by omega⟩
      have hm : ¬ (Lib.index l [c] == -1) = true := fun e => by have := beq_iff_eq.1 e; omega
      rw [Lib.count_hit (by simp) h, Nat.add_comm 1, Lib.splitK, if_neg hm]
      have e : (Lib.index l [c]).toNat = i := by omega
      rw [e, List.length_singleton, Nat.add_zero, splitK_eq c n (l.drop (i + 1)) (by simp; omega)]
      conv => rhs; rw [h1, splitL_cut _ h2]
theorem splitK_len (c : UInt8) : ∀ (n : Nat) (l : List UInt8), l.length ≤ n → (Lib.splitK [c] 0 (Lib.count l [c]) l).length = Lib.count l [c] + 1
  | n, l, hn => by
    rcases index_ways l c with h | ⟨i, h⟩
    · rw [Lib.count_miss h]; rfl
    · obtain ⟨h1, h2⟩ := index_hit h
      have hil : i < l.length := by
        have := congrArg List.length h1
        simp at this; omega
      obtain ⟨n, rfl⟩ : ∃ m, n = m + 1 := ⟨n - 1, by omega⟩
      have hm : ¬ (Lib.index l [c] == -1) = true := fun e => by have := beq_iff_eq.1 e; omega
      have e : (Lib.index l [c]).toNat = i := by omega
      rw [Lib.count_hit (by simp) h, Nat.add_comm 1, Lib.splitK, if_neg hm, e, List.length_singleton, Nat.add_zero, List.length_cons, splitK_len c n (l.drop (i + 1)) (by simp; omega)]
theorem splitB_len (c : UInt8) (s : ByteArray) : (Lib.splitB ⟨#[c]⟩ 0 (Lib.countB s ⟨#[c]⟩) s).length = Lib.countB s ⟨#[c]⟩ + 1 := by
  have h := congrArg List.length (Lib.splitB_data ⟨#[c]⟩ 0 (Lib.countB s ⟨#[c]⟩) s)
  rw [List.length_map] at h
  rw [h]
  exact splitK_len c _ s.data.toList (Nat.le_refl _)
theorem splitB_eq (c : UInt8) (s : ByteArray) : (Lib.splitB ⟨#[c]⟩ 0 (Lib.countB s ⟨#[c]⟩) s).map (·.data.toList) = splitL c s.data.toList := by
  rw [Lib.splitB_data]
  exact splitK_eq c _ s.data.toList (Nat.le_refl _)
/-- strings.Cut at one byte -/
theorem cut_eq (c : UInt8) (l : List UInt8) : Lib.cut l [c] = match splitL c l with
    | [] => (l, [], false)
    | [p] => (p, [], false)
    | p :: q :: r => (p, Lib.join (q :: r) [c], true) := by
  unfold Lib.cut
  rcases index_ways l c with h | ⟨i, h⟩
  · rw [if_neg (by omega), splitL_none (index_miss h)]
  · obtain ⟨h1, h2⟩ := index_hit h
    rw [if_pos (by omega), show (Lib.index l [c]).toNat = i by omega]
    have e : splitL c l = l.take i :: splitL c (l.drop (i + 1)) := by conv => lhs; rw [h1, splitL_cut _ h2]
    have hj := join_splitL c (l.drop (i + 1))
    have hne := splitL_ne c (l.drop (i + 1))
    rw [e]
    generalize splitL c (l.drop (i + 1)) = s at hj hne
    match s with
    | [] => exact absurd rfl hne
    | q :: r => simp [hj]
theorem cut_none {c : UInt8} {l : List UInt8} (h : c ∉ l) : Lib.cut l [c] = (l, [], false) := by rw [cut_eq, splitL_none h]
theorem cut_some {c : UInt8} {a b : List UInt8} (h : c ∉ a) : Lib.cut (a ++ c :: b) [c] = (a, b, true) := by
  have hj := join_splitL c b
  have hne := splitL_ne c b
  rw [cut_eq, splitL_cut _ h]
  generalize splitL c b = s at hj hne
  match s with
  | [] => exact absurd rfl hne
  | q :: r => simp [hj]
end Go.Proofs.YtghdimmomnfakaaGreatDoor.Spl

set_option linter.unusedVariables false
set_option linter.unusedSimpArgs false
namespace Go.Proofs.YtghdimmomnfakaaGreatDoor.Gv
open Go.RowKit Go.Proofs.YtghdimmomnfakaaGreatDoorW.PrintWords Go.Proofs.YtghdimmomnfakaaGreatDoorW.PrintLast Go.Proofs.YtghdimmomnfakaaGreatDoorW.PrintMore
/-- What a call may count on besides: the two errors of the library's. -/
structure Ge (w : World) : Prop where
  g : Gw w
  synt : ∃ ev, w.cell? ⟨1, 0, none⟩ = some ev ∧ (ev = .nilIface ∨ ∃ te pe, ev = .iface te pe)
  rang : ∃ ev, w.cell? ⟨2, 0, none⟩ = some ev ∧ (ev = .nilIface ∨ ∃ te pe, ev = .iface te pe)
theorem Ge.below {w w' : World} (h : Ge w) (hb : Below w.heap.size w w') : Ge w' :=
  ⟨Gw.below h.g hb, by obtain ⟨ev, h1, h2⟩ := h.synt; exact ⟨ev, keepC hb h1, h2⟩, by obtain ⟨ev, h1, h2⟩ := h.rang; exact ⟨ev, keepC hb h1, h2⟩⟩
theorem below_drewN' {w : World} (n : Nat) : Below w.heap.size w (w.drewN n) := pw_below_drewN (Below.refl _ _) n
/-- the number of a text, if it is one that an int holds -/
def numO (l : List UInt8) : Option Int := match Lib.atoiAll l with | .ok v => some v | _ => none
theorem atoi_ok (s : ByteArray) (v : Int) (hs : s.size ≤ 281474976710656) (h : numO s.data.toList = some v) (w : World) :
    Calls Tryz.prog 42 #[.string s] w fun e w' => e = .returned (.tuple #[.int .i64 v, .nilIface]) ∧ Below w.heap.size w w' := by
  unfold numO at h
  split at h
  · rename_i v' hv
    obtain rfl := Option.some.inj h
    refine (Tryz.strconv_Atoi_ok s (by omega) v' hv w).mono ?_
    rintro e w' ⟨rfl, rfl | ⟨t, rfl⟩⟩
    · exact ⟨rfl, Below.refl _ _⟩
    · exact ⟨rfl, Lib.bytesWorld_below _ _ _⟩
  · cases h
theorem atoi_no (s : ByteArray) (hs : s.size ≤ 281474976710656) (h : numO s.data.toList = none) (w : World) (hG : Ge w) :
    Calls Tryz.prog 42 #[.string s] w fun e w' => ∃ (v : Int) (N : Nat), e = .returned (.tuple #[.int .i64 v, .iface 96 (.pointer (some ⟨N, 0, none⟩))]) ∧ Below w.heap.size w w' := by
  unfold numO at h
  split at h
  · cases h
  · rename_i hno
    cases ha : Lib.atoiAll s.data.toList with
    | ok v => exact absurd ha (hno v)
    | range =>
      obtain ⟨ev, h1, h2⟩ := hG.rang
      refine (Tryz.strconv_Atoi_range s hs ha ev w h1 h2).mono ?_
      rintro e w' ⟨N, rfl, _, _, hb⟩
      exact ⟨_, N, rfl, hb⟩
    | _ =>
      obtain ⟨ev, h1, h2⟩ := hG.synt
      refine (Any.strconv_Atoi_syntax Tryz.laysC172 s hs ha ev w h1 h2).mono ?_
      rintro e w' ⟨N, rfl, _, _, hb⟩
      exact ⟨_, N, rfl, hb⟩
theorem cut_any (s sep : ByteArray) (w : World) (hG : Gw w) (hs : s.size < 4294967281) :
    Calls Tryz.prog 10 #[.string s, .string sep] w fun e w' => e = .returned (.tuple #[.string ⟨(Lib.cut s.data.toList sep.data.toList).1.toArray⟩, .string ⟨(Lib.cut s.data.toList sep.data.toList).2.1.toArray⟩, .bool (Lib.cut s.data.toList sep.data.toList).2.2]) ∧ Below w.heap.size w w' := by
  obtain ⟨m, hm⟩ := hG.most
  refine (Tryz.strings_Cut s sep m w hs hm).mono ?_
  rintro e w' ⟨rfl, n, rfl⟩
  exact ⟨rfl, below_drewN' n⟩
/-- the k-th string -/
def nthS (l : List ByteArray) (k : Nat) : ByteArray := l.getD k ByteArray.empty
/-- the strings of a list lie in a block -/
def Strs (w : World) (b : Nat) (l : List ByteArray) (t : TypeId) : Prop := w.heap[b]? = some (.cells (l.map Value.string).toArray t (0, 0))
theorem Strs.below {w w1 : World} {b : Nat} {l : List ByteArray} {t : TypeId} (h : Strs w b l t) (hb : Below w.heap.size w w1) : Strs w1 b l t := blk_below h hb
theorem Strs.cell {w : World} {b : Nat} {l : List ByteArray} {t : TypeId} (h : Strs w b l t) {k : Nat} (hk : k < l.length) : w.cell? ⟨b, k, none⟩ = some (.string (nthS l k)) := by
  refine (blk_cell h k).trans ?_
  unfold nthS
  simp [hk]
theorem split_any (s : ByteArray) (c : UInt8) (w : World) (hG : Gw w) (hs : s.size < 4294967281) :
    Calls Tryz.prog 24 #[.string s, .string ⟨#[c]⟩] w fun e w' => ∃ l : List ByteArray, l.map (·.data.toList) = Spl.splitL c s.data.toList ∧ e = .returned (.slice (some ⟨w.heap.size, 0, none⟩) l.length l.length) ∧ Strs w' w.heap.size l 9 ∧ Below w.heap.size w w' := by
  obtain ⟨m, hm⟩ := hG.most
  refine (Tryz.strings_Split s ⟨#[c]⟩ m w hs hm (Nat.le_refl 1)).mono ?_
  rintro e w' ⟨rfl, rfl⟩
  have h := Spl.splitB_eq c s
  have hl := Spl.splitB_len c s
  exact ⟨_, h, by rw [hl], blk_new _ _, (Below.refl _ _).alloc (Nat.le_refl _) _⟩
def partsS (c : UInt8) (s : ByteArray) : List ByteArray := (Spl.splitL c s.data.toList).map fun p => ⟨p.toArray⟩
theorem partsS_of {c : UInt8} {s : ByteArray} {l : List ByteArray} (h : l.map (·.data.toList) = Spl.splitL c s.data.toList) : l = partsS c s := by
  unfold partsS
  rw [← h, List.map_map]
  have : ((fun p : List UInt8 => (⟨p.toArray⟩ : ByteArray)) ∘ fun x : ByteArray => x.data.toList) = id := by
    funext x; simp
  rw [this, List.map_id]
theorem split_parts (s : ByteArray) (c : UInt8) (w : World) (hG : Gw w) (hs : s.size < 4294967281) :
    Calls Tryz.prog 24 #[.string s, .string ⟨#[c]⟩] w fun e w' => e = .returned (.slice (some ⟨w.heap.size, 0, none⟩) (partsS c s).length (partsS c s).length) ∧ Strs w' w.heap.size (partsS c s) 9 ∧ Below w.heap.size w w' :=
  (split_any s c w hG hs).mono fun e w' ⟨l, hl, he, hS, hb⟩ => by
    obtain rfl := partsS_of hl
    exact ⟨he, hS, hb⟩
theorem splitL_len (c : UInt8) : ∀ l : List UInt8, (Spl.splitL c l).length ≤ l.length + 1
  | [] => by simp [Spl.splitL]
  | x :: r => by
    have ih := splitL_len c r
    have hne := Spl.splitL_ne c r
    rw [Spl.splitL]
    split
    · simp; omega
    · split
      · simp
      · rename_i e; rw [e] at ih; simp at ih ⊢; omega
theorem partsS_len (c : UInt8) (s : ByteArray) : (partsS c s).length ≤ s.size + 1 := by
  unfold partsS
  rw [List.length_map]
  have := splitL_len c s.data.toList
  simpa using this
theorem splitL_le (c : UInt8) : ∀ (l : List UInt8), ∀ p ∈ Spl.splitL c l, p.length ≤ l.length
  | [], p, hp => by simp [Spl.splitL] at hp; subst hp; simp
  | x :: r, p, hp => by
    have ih := splitL_le c r
    rw [Spl.splitL] at hp
    split at hp
    · rcases List.mem_cons.1 hp with rfl | hp
      · simp
      · have := ih p hp; simp; omega
    · generalize Spl.splitL c r = s at hp ih
      match s with
      | [] => simp at hp; subst hp; simp
      | q :: t =>
        rcases List.mem_cons.1 hp with rfl | hp
        · have := ih q (by simp); simp; omega
        · have := ih p (by simp [hp]); simp; omega
theorem partsS_le (c : UInt8) (s : ByteArray) (k : Nat) : (nthS (partsS c s) k).size ≤ s.size := by
  unfold nthS
  rw [List.getD_eq_getElem?_getD]
  cases h : (partsS c s)[k]? with
  | none => exact Nat.zero_le _
  | some x =>
    have hx := List.mem_of_getElem? h
    unfold partsS at hx
    obtain ⟨p, hp, rfl⟩ := List.mem_map.1 hx
    have := splitL_le c _ p hp
    show p.toArray.size ≤ s.size
    simpa using this
theorem cut_len (l sep : List UInt8) : (Lib.cut l sep).1.length ≤ l.length ∧ (Lib.cut l sep).2.1.length ≤ l.length := by
  unfold Lib.cut
  split
  · exact ⟨by simp; omega, by simp⟩
  · exact ⟨Nat.le_refl _, by simp⟩
end Go.Proofs.YtghdimmomnfakaaGreatDoor.Gv

set_option linter.unusedVariables false
set_option linter.unusedSimpArgs false
namespace Go.Proofs.YtghdimmomnfakaaGreatDoor.Gv
open Go.RowKit Go.Proofs.YtghdimmomnfakaaGreatDoorW.PrintWords Go.Proofs.YtghdimmomnfakaaGreatDoorW.PrintLast Go.Proofs.YtghdimmomnfakaaGreatDoorW.PrintMore
/-- the words that are left: k of n words of the block b are taken -/
def restV (b n k : Nat) : Value := if k < n then .slice (some ⟨b, k, none⟩) (n - k) (n - k) else .slice (some ⟨b, n - 1, none⟩) 0 0
/-- a reader of the words of a block -/
structure RdS (w : World) (br bw : Nat) (L : List ByteArray) (k : Nat) : Prop where
  r : w.heap[br]? = some (.cells #[restV bw L.length k] 55 (0, 0))
  l : Strs w bw L 9
theorem RdS.below {w w1 : World} {br bw : Nat} {L : List ByteArray} {k : Nat} (h : RdS w br bw L k) (hb : Below w.heap.size w w1) : RdS w1 br bw L k := ⟨blk_below h.r hb, h.l.below hb⟩
/-- the reader's box alone is written -/
def Step1 (br : Nat) (w w' : World) : Prop := w' = w ∨ ∃ v, w' = w.setCell ⟨br, 0, none⟩ v
theorem Step1.blk {br : Nat} {w w' : World} (h : Step1 br w w') {g : Nat} {t : TypeId} {cs : Array Value} (hg : g ≠ br) (hb : w.heap[g]? = some (.cells cs t (0, 0))) : w'.heap[g]? = some (.cells cs t (0, 0)) := by
  rcases h with rfl | ⟨v, rfl⟩
  · exact hb
  · exact blk_far hb hg _
theorem Step1.below {B br : Nat} {w0 w w' : World} (h : Step1 br w w') (hB : B ≤ br) (hb : Below B w0 w) : Below B w0 w' := by
  rcases h with rfl | ⟨v, rfl⟩
  · exact hb
  · exact hb.setCell hB _
/-- the reader's box is written, then memory is made -/
def StepB (br : Nat) (w w' : World) : Prop := ∃ w1, Step1 br w w1 ∧ Below w1.heap.size w1 w'
theorem StepB.blk {br : Nat} {w w' : World} (h : StepB br w w') {g : Nat} {t : TypeId} {cs : Array Value} (hg : g ≠ br) (hb : w.heap[g]? = some (.cells cs t (0, 0))) : w'.heap[g]? = some (.cells cs t (0, 0)) := by
  obtain ⟨w1, h1, h2⟩ := h
  exact blk_below (h1.blk hg hb) h2
theorem StepB.below {B br : Nat} {w0 w w' : World} (h : StepB br w w') (hB : B ≤ br) (hb : Below B w0 w) (hs : B ≤ w.heap.size) : Below B w0 w' := by
  obtain ⟨w1, h1, h2⟩ := h
  have h3 := h1.below hB hb
  refine h3.trans (h2.mono ?_)
  rcases h1 with rfl | ⟨v, rfl⟩
  · exact hs
  · simpa using hs
theorem Step1.toB {br : Nat} {w w' : World} (h : Step1 br w w') : StepB br w w' := ⟨w', h, Below.refl _ _⟩
set_option maxHeartbeats 1000000 in
theorem word_some (br bw : Nat) (L : List ByteArray) (k : Nat) (w : World) (h : RdS w br bw L k) (hk : k < L.length) (hl : L.length ≤ 100000000) :
    Calls Tryz.prog 26 #[.pointer (some ⟨br, 0, none⟩)] w fun e w' => e = .returned (.string (nthS L k)) ∧ Step1 br w w' ∧ w'.heap[br]? = some (.cells #[restV bw L.length (k + 1)] 55 (0, 0)) := by
  have hr : w.heap[br]? = some (.cells #[.slice (some ⟨bw, k, none⟩) (L.length - k) (L.length - k)] 55 (0, 0)) := by
    have := h.r; unfold restV at this; rw [if_pos hk] at this; exact this
  have hc : w.cell? ⟨br, 0, none⟩ = some (.slice (some ⟨bw, k, none⟩) (L.length - k) (L.length - k)) := (blk_cell hr 0).trans rfl
  have hf := blk_frozen hr 0
  have hx := h.l.cell hk
  have HR := Aside0.mk hr
  generalize hn : L.length = n at *
  obtain ⟨m, hm⟩ : ∃ m, n - k = m + 1 := ⟨n - k - 1, by omega⟩
  rw [hm] at hc HR
  by_cases h1 : m = 0
  · subst h1
    have hv : restV bw n (k + 1) = .slice (some ⟨bw, k, none⟩) 0 0 := by
      unfold restV; rw [if_neg (by omega), show n - 1 = k by omega]
    have HV := Aside0.mk hv
    clear hv hr hm hn h hk
    go_enter Tryz.func26, Tryz.ntmps26
    go_wp2
    go_ret
    exact ⟨rfl, .inr ⟨_, rfl⟩, by rw [HV.out]; exact blk_put HR.out 0 _ rfl⟩
  · have hv : restV bw n (k + 1) = .slice (some ⟨bw, k + 1, none⟩) m m := by
      unfold restV; rw [if_pos (by omega), show n - (k + 1) = m by omega]
    have HV := Aside0.mk hv
    clear hv hr hm hn h hk
    go_enter Tryz.func26, Tryz.ntmps26
    go_wp2
    go_ret
    exact ⟨rfl, .inr ⟨_, rfl⟩, by rw [HV.out]; exact blk_put HR.out 0 _ rfl⟩
set_option maxHeartbeats 1000000 in
theorem word_none (br bw : Nat) (L : List ByteArray) (k : Nat) (w : World) (h : RdS w br bw L k) (hk : ¬ k < L.length) :
    Calls Tryz.prog 26 #[.pointer (some ⟨br, 0, none⟩)] w fun e w' => e = .returned (.string ⟨#[]⟩) ∧ w' = w := by
  have hr : w.heap[br]? = some (.cells #[.slice (some ⟨bw, L.length - 1, none⟩) 0 0] 55 (0, 0)) := by
    have := h.r; unfold restV at this; rw [if_neg hk] at this; exact this
  have hc : w.cell? ⟨br, 0, none⟩ = some (.slice (some ⟨bw, L.length - 1, none⟩) 0 0) := (blk_cell hr 0).trans rfl
  clear hr h hk
  go_enter Tryz.func26, Tryz.ntmps26
  go_wp2
  go_ret
  exact ⟨rfl, rfl⟩
theorem nthS_none {L : List ByteArray} {k : Nat} (hk : ¬ k < L.length) : nthS L k = ⟨#[]⟩ := by
  unfold nthS
  rw [List.getD_eq_getElem?_getD, List.getElem?_eq_none (by omega)]
  rfl
theorem restV_past {b n k : Nat} (h : ¬ k < n) : restV b n (k + 1) = restV b n k := by
  unfold restV; rw [if_neg (by omega), if_neg h]
theorem word_any (br bw : Nat) (L : List ByteArray) (k : Nat) (w : World) (h : RdS w br bw L k) (hl : L.length ≤ 100000000) (hne : bw ≠ br) :
    Calls Tryz.prog 26 #[.pointer (some ⟨br, 0, none⟩)] w fun e w' => e = .returned (.string (nthS L k)) ∧ Step1 br w w' ∧ RdS w' br bw L (k + 1) := by
  by_cases hk : k < L.length
  · exact (word_some br bw L k w h hk hl).mono fun e w' ⟨he, h1, h2⟩ => ⟨he, h1, h2, h1.blk hne h.l⟩
  · refine (word_none br bw L k w h hk).mono fun e w' ⟨he, h1⟩ => ?_
    subst h1
    rw [nthS_none hk]
    exact ⟨he, .inl rfl, by rw [restV_past hk]; exact h.r, h.l⟩
/-- the number of a word; -1 if it is none -/
def numG (s : ByteArray) : Int := (numO s.data.toList).getD (-1)
set_option maxHeartbeats 1000000 in
theorem number_any (br bw : Nat) (L : List ByteArray) (k : Nat) (w w0 : World) (hG : Ge w0) (hw : Below w0.heap.size w0 w) (hbr : w0.heap.size ≤ br) (h : RdS w br bw L k) (hl : L.length ≤ 100000000) (hne : bw ≠ br) (hsz : (nthS L k).size ≤ 281474976710656) :
    Calls Tryz.prog 29 #[.pointer (some ⟨br, 0, none⟩)] w fun e w' => e = .returned (.int .i64 (numG (nthS L k))) ∧ StepB br w w' ∧ RdS w' br bw L (k + 1) := by
  have word := word_any br bw L k w h hl hne
  have HG := Aside0.mk hG
  have HW := Aside0.mk hw
  have WORD := Aside0.mk word
  clear hG hw word h
  generalize nthS L k = s at *
  cases hn : numO s.data.toList with
  | some v =>
    have hv : numG s = v := by unfold numG; rw [hn]; rfl
    have HV := Aside0.mk hv
    have ATOI := Aside0.mk (fun W => atoi_ok s v hsz hn W)
    clear hn hv hsz
    go_enter Tryz.func29, Tryz.ntmps29
    go_wp2_with fail
    refine WORD.out.mono ?_
    rintro e w1 ⟨rfl, h1, h2⟩
    have H1 := Aside0.mk h1
    have H2 := Aside0.mk h2
    clear h1 h2
    go_wp2_with fail
    refine (ATOI.out _).mono ?_
    rintro e w2 ⟨rfl, hb⟩
    have HB := Aside0.mk hb
    clear hb
    go_wp2
    go_ret
    exact ⟨by rw [HV.out]; rfl, ⟨w1, H1.out, HB.out⟩, H2.out.below HB.out⟩
  | none =>
    have hv : numG s = -1 := by unfold numG; rw [hn]; rfl
    have HV := Aside0.mk hv
    have ATOI := Aside0.mk (fun W hW => atoi_no s hsz hn W hW)
    clear hn hv hsz
    go_enter Tryz.func29, Tryz.ntmps29
    go_wp2_with fail
    refine WORD.out.mono ?_
    rintro e w1 ⟨rfl, h1, h2⟩
    have H1 := Aside0.mk h1
    have H2 := Aside0.mk h2
    clear h1 h2
    go_wp2_with fail
    refine (ATOI.out _ (Ge.below HG.out (H1.out.below hbr HW.out))).mono ?_
    rintro e w2 ⟨v, M, rfl, hb⟩
    have HB := Aside0.mk hb
    clear hb
    go_wp2
    go_ret
    exact ⟨by rw [HV.out]; rfl, ⟨w1, H1.out, HB.out⟩, H2.out.below HB.out⟩
end Go.Proofs.YtghdimmomnfakaaGreatDoor.Gv

set_option linter.unusedVariables false
set_option linter.unusedSimpArgs false
namespace Go.Proofs.YtghdimmomnfakaaGreatDoor.Gv
open Go.RowKit Go.Proofs.YtghdimmomnfakaaGreatDoorW.PrintWords Go.Proofs.YtghdimmomnfakaaGreatDoorW.PrintLast Go.Proofs.YtghdimmomnfakaaGreatDoorW.PrintMore
abbrev shapesC : Array Value := #[.string ⟨#[105, 110, 102, 105, 120]⟩, .bool true, .bool true, .bool true, .string ⟨#[112, 114, 101, 102, 105, 120]⟩, .bool true, .bool false, .bool true, .string ⟨#[112, 111, 115, 116, 102, 105, 120]⟩, .bool true, .bool true, .bool false, .string ⟨#[106, 117, 120, 116, 97, 112, 111, 115, 101]⟩, .bool false, .bool true, .bool true]
theorem shapes_any (w : World) : Calls Tryz.prog 25 #[] w fun e w' => e = .returned (.agg shapesC) ∧ Below w.heap.size w w' :=
  Go.Proofs.YtghdimmomnfakaaGreatDoor.Y.grammar_shapes.calls _ _ _ _ _ _ _ _ _ _ _ _ _ _ _ _ w rfl
def kindW (j : Nat) : ByteArray := match j with | 0 => ⟨#[105, 110, 102, 105, 120]⟩ | 1 => ⟨#[112, 114, 101, 102, 105, 120]⟩ | 2 => ⟨#[112, 111, 115, 116, 102, 105, 120]⟩ | _ => ⟨#[106, 117, 120, 116, 97, 112, 111, 115, 101]⟩
def kindS (j : Nat) : Bool := match j with | 0 => true | 1 => true | 2 => true | _ => false
def kindL (j : Nat) : Bool := match j with | 0 => true | 1 => false | 2 => true | _ => true
def kindR (j : Nat) : Bool := match j with | 0 => true | 1 => true | 2 => false | _ => true
theorem lt4 {k : Nat} (h : k < 4) : k = 0 ∨ k = 1 ∨ k = 2 ∨ k = 3 := by omega
theorem kind_cells {w : World} {b : Nat} (h : w.heap[b]? = some (.cells shapesC 58 (0, 0))) {k : Nat} (hk : k < 4) : w.cell? ⟨b, k * 4, none⟩ = some (.string (kindW k)) ∧ w.cell? ⟨b, k * 4 + 1, none⟩ = some (.bool (kindS k)) ∧ w.cell? ⟨b, k * 4 + 2, none⟩ = some (.bool (kindL k)) ∧ w.cell? ⟨b, k * 4 + 3, none⟩ = some (.bool (kindR k)) := by
  rcases lt4 hk with rfl | rfl | rfl | rfl
  · exact ⟨(blk_cell h 0).trans rfl, (blk_cell h 1).trans rfl, (blk_cell h 2).trans rfl, (blk_cell h 3).trans rfl⟩
  · exact ⟨(blk_cell h 4).trans rfl, (blk_cell h 5).trans rfl, (blk_cell h 6).trans rfl, (blk_cell h 7).trans rfl⟩
  · exact ⟨(blk_cell h 8).trans rfl, (blk_cell h 9).trans rfl, (blk_cell h 10).trans rfl, (blk_cell h 11).trans rfl⟩
  · exact ⟨(blk_cell h 12).trans rfl, (blk_cell h 13).trans rfl, (blk_cell h 14).trans rfl, (blk_cell h 15).trans rfl⟩
set_option maxHeartbeats 1000000 in
theorem read1 (s word : ByteArray) (a b c : Bool) (g : Nat) (W : World) (hg : W.heap[g]? = some (.cells #[.string word] 9 (0, 0))) :
    Calls Tryz.prog 28 #[.agg #[.string s, .bool a, .bool b, .bool c], .pointer (some ⟨g, 0, none⟩)] W fun e w' => e = .returned (.bool (s.toList == word.toList)) ∧ Below W.heap.size W w' := by
  have hc : W.cell? ⟨g, 0, none⟩ = some (.string word) := (blk_cell hg 0).trans rfl
  have hl := blk_lt hg
  have n1 := Nat.ne_of_lt hl
  have n2 := Ne.symm n1
  clear hg
  go_enter Tryz.func28, Tryz.ntmps28
  go_wp2
  go_ret
  exact ⟨rfl, (Below.refl _ _).alloc (Nat.le_refl _) _⟩
/-- the kind of a word, from 0 on; -1 if it is none -/
def kindIdx (word : ByteArray) : Int := if (kindW 0).toList == word.toList then 0 else if (kindW 1).toList == word.toList then 1 else if (kindW 2).toList == word.toList then 2 else if (kindW 3).toList == word.toList then 3 else -1
theorem kindIdx_hit {word : ByteArray} {k : Nat} (hk : k < 4) (h : ((kindW k).toList == word.toList) = true) (h0 : ∀ j, j < k → ((kindW j).toList == word.toList) = false) : kindIdx word = k := by
  unfold kindIdx
  rcases lt4 hk with rfl | rfl | rfl | rfl
  · rw [if_pos h]; rfl
  · rw [if_neg (by rw [h0 0 (by omega)]; decide), if_pos h]; rfl
  · rw [if_neg (by rw [h0 0 (by omega)]; decide), if_neg (by rw [h0 1 (by omega)]; decide), if_pos h]; rfl
  · rw [if_neg (by rw [h0 0 (by omega)]; decide), if_neg (by rw [h0 1 (by omega)]; decide), if_neg (by rw [h0 2 (by omega)]; decide), if_pos h]; rfl
theorem kindIdx_miss {word : ByteArray} (h0 : ∀ j, j < 4 → ((kindW j).toList == word.toList) = false) : kindIdx word = -1 := by
  unfold kindIdx
  rw [if_neg (by rw [h0 0 (by omega)]; decide), if_neg (by rw [h0 1 (by omega)]; decide), if_neg (by rw [h0 2 (by omega)]; decide), if_neg (by rw [h0 3 (by omega)]; decide)]
set_option maxHeartbeats 2000000 in
theorem indexShape (bk g : Nat) (word : ByteArray) (w : World) (hk : w.heap[bk]? = some (.cells shapesC 58 (0, 0))) (hg : w.heap[g]? = some (.cells #[.string word] 9 (0, 0))) :
    Calls Tryz.prog 27 #[.slice (some ⟨bk, 0, none⟩) 4 4, .func (.func 28) #[] #[.pointer (some ⟨g, 0, none⟩)]] w fun e w' => e = .returned (.int .i64 (kindIdx word)) ∧ Below w.heap.size w w' := by
  have eg : ∀ args w, (callFunc 28 args).run Tryz.prog w = .ok (.enter 28 args) w := enters_of Tryz.func28 (by kernel_rfl) rfl
  have HK := Aside0.mk hk
  have HGG := Aside0.mk hg
  clear hk hg
  go_enter Tryz.func27, Tryz.ntmps27
  go_wp2
  go_loopw [5, 8] (fun _ i wr => ∃ k : Nat, k ≤ 4 ∧ i = .int .i64 k ∧ Aside0 (Below w.heap.size w wr) ∧ Aside0 (∀ j, j < k → ((kindW j).toList == word.toList) = false)) (fun _ i _ => 4 - (intOf i).toNat)
  case atStart => exact ⟨0, Nat.zero_le _, rfl, ⟨Below.refl _ _⟩, ⟨fun j hj => absurd hj (Nat.not_lt_zero _)⟩⟩
  case round =>
    obtain ⟨k, hk, rfl, BW, A0⟩ := hrel
    by_cases hlt : k < 4
    · obtain ⟨x0, x1, x2, x3⟩ := kind_cells (blk_below HK.out BW.out) hlt
      have hl0 : (0 : Int) ≤ (k : Int) := by omega
      have hl4 : (k : Int) < 4 := by omega
      have call := read1 (kindW k) word (kindS k) (kindL k) (kindR k) g wr (blk_below HGG.out BW.out)
      cases he : ((kindW k).toList == word.toList) with
      | true =>
        rw [he] at call
        have HI := Aside0.mk (kindIdx_hit hlt he A0.out)
        clear he
        go_wp2_with (go_at_fn 28; refine call.mono ?_; rintro e w' ⟨rfl, hb'⟩)
        go_ret
        rw [HI.out]
        exact ⟨rfl, keepB hb' BW.out⟩
      | false =>
        rw [he] at call
        have A1 : Aside0 (∀ j, j < k + 1 → ((kindW j).toList == word.toList) = false) := ⟨fun j hj => by
          by_cases e : j = k
          · subst e; exact he
          · exact A0.out j (by omega)⟩
        clear he
        go_wp2_with (go_at_fn 28; refine call.mono ?_; rintro e w' ⟨rfl, hb'⟩)
        go_roundw
        case rel => exact ⟨k + 1, by omega, by go_num, ⟨keepB hb' BW.out⟩, A1⟩
        case measure => simp [intOf]; omega
    · have HI := Aside0.mk (kindIdx_miss (fun j hj => A0.out j (by omega)))
      have hk4 : k = 4 := by omega
      subst hk4
      go_wp2
      go_ret
      rw [HI.out]
      exact ⟨rfl, BW.out⟩
end Go.Proofs.YtghdimmomnfakaaGreatDoor.Gv

set_option linter.unusedVariables false
namespace Go.Proofs.YtghdimmomnfakaaGreatDoor.Pure
open Go.RowKit Go.Proofs.YtghdimmomnfakaaGreatDoorW.PrintWords Go.Proofs.YtghdimmomnfakaaGreatDoorW.PrintLast Go.Proofs.YtghdimmomnfakaaGreatDoorW.PrintMore Go.Proofs.YtghdimmomnfakaaGreatDoor.Gv Go.Proofs.YtghdimmomnfakaaGreatDoor.X
theorem w64 {x : Int} (h0 : -9223372036854775808 ≤ x) (h1 : x ≤ 9223372036854775807) : wrap64 x = x := by
  unfold wrap64
  omega
set_option maxRecDepth 100000 in
theorem awake_at : vinculumlaw49_awake.f 20 = some true := by kernel_rfl
theorem awake (k : Nat) (h : 20 ≤ k) : vinculumlaw49_awake.f k = some true := at_rounds vinculumlaw49_awake.mono h awake_at
end Go.Proofs.YtghdimmomnfakaaGreatDoor.Pure

set_option linter.unusedVariables false
set_option linter.unusedSimpArgs false
namespace Go.Proofs.YtghdimmomnfakaaGreatDoor.Pure
open Go.RowKit Go.Proofs.YtghdimmomnfakaaGreatDoorW.PrintWords Go.Proofs.YtghdimmomnfakaaGreatDoorW.PrintLast Go.Proofs.YtghdimmomnfakaaGreatDoorW.PrintMore Go.Proofs.YtghdimmomnfakaaGreatDoor.Gv Go.Proofs.YtghdimmomnfakaaGreatDoor.X
/-- a letter, as a number -/
def letZ (n : Int) : Bool := (decide (97 ≤ n) && decide (n ≤ 122)) || (decide (65 ≤ n) && decide (n ≤ 90))
theorem impl_letter (n : Int) : Go.Proofs.YtghdimmomnfakaaGreatDoor.Y.node_letter.f n = some (letZ n) := by
  unfold Go.Proofs.YtghdimmomnfakaaGreatDoor.Y.node_letter.f letZ
  by_cases h1 : n ≥ 97 <;> by_cases h2 : n ≤ 122 <;> by_cases h3 : n ≥ 65 <;> by_cases h4 : n ≤ 90 <;> simp [h1, h2, h3, h4] <;> omega
theorem ref_Letter (n : Int) : vinculumref09_Letter.f n = some (letZ n) := by
  unfold vinculumref09_Letter.f letZ
  by_cases h1 : n ≥ 97 <;> by_cases h2 : n ≤ 122 <;> by_cases h3 : n ≥ 65 <;> by_cases h4 : n ≤ 90 <;> simp [h1, h2, h3, h4] <;> omega
theorem ref_letter (k : Nat) (n : Int) (h0 : 0 ≤ n) (h1 : n ≤ 255) : ∃ m, vinculumref48_letter.f (k + 1) n = some m ∧ (decide (m < 0)) = !letZ n := by
  unfold vinculumref48_letter.f
  have e : ∀ b, vinculumref48_letter.j0 (k + 1) n b = if b = true then (some ((n - 97) % 256)) else (if n ≥ 65 then (if n ≤ 90 then (some (26 + ((n - 65) % 256))) else (some (-1))) else (some (-1))) := fun b => by rw [vinculumref48_letter.j0]
  rw [e, e]
  unfold letZ
  split
  · split
    · exact ⟨_, rfl, by simp_all <;> omega⟩
    · split
      · split
        · exact ⟨_, rfl, by simp_all <;> omega⟩
        · exact ⟨_, rfl, by simp_all <;> omega⟩
      · exact ⟨_, rfl, by simp_all <;> omega⟩
  · rw [if_neg (by simp)]
    split
    · split
      · exact ⟨_, rfl, by simp_all <;> omega⟩
      · exact ⟨_, rfl, by simp_all <;> omega⟩
    · exact ⟨_, rfl, by simp_all <;> omega⟩
theorem bt_byte (s : ByteArray) (i : Nat) (h : i < s.size) : bt s (i : Int) = ((s[i]'h).toNat : Int) := (bt_at s (i : Int) (by simpa using h)).symm
theorem letB_bt (s : ByteArray) (i : Nat) (h : i < s.size) : letB (s[i]'h) = letZ (bt s (i : Int)) := by
  rw [bt_byte s i h]
  unfold letB letZ
  have e : ∀ (a b : Nat), decide ((a : Int) ≤ (b : Int)) = decide (a ≤ b) := fun a b => by simp
  simp only [← e]
  rfl
/-- from a place on, letters alone -/
def restLet (s : ByteArray) (i : Nat) : Bool := (s.data.toList.drop i).all letB
theorem restLet_step {s : ByteArray} {i : Nat} (h : i < s.size) : restLet s i = (letZ (bt s (i : Int)) && restLet s (i + 1)) := by
  unfold restLet
  have hl : i < s.data.toList.length := by simpa using h
  rw [List.drop_eq_getElem_cons hl, List.all_cons, ← letB_bt s i h]
  simp [ByteArray.getElem_eq_getElem_data]
theorem restLet_end {s : ByteArray} {i : Nat} (h : ¬ i < s.size) : restLet s i = true := by
  unfold restLet
  rw [List.drop_eq_nil_of_le (by simp; omega)]
  rfl
theorem ref_Letters_l0 (s : ByteArray) (hs : s.size ≤ 9223372036854775807) : ∀ n i k, s.size = i + n → n + 2 ≤ k →
    vinculumref48_Letters.l0 k s (i : Int) = some (restLet s i && (decide (1 ≤ s.size) && decide (s.size ≤ 16)))
  | n, i, 0, _, hk => by omega
  | n, i, k + 1, hi, hk => by
    rw [vinculumref48_Letters.l0]
    by_cases h : (i : Int) < (s.size : Int)
    · rw [if_pos h, if_pos (by omega)]
      obtain ⟨k', rfl⟩ : ∃ k', k = k' + 1 := ⟨k - 1, by omega⟩
      obtain ⟨m, hm, hm2⟩ := ref_letter k' (bt s (i : Int)) (bt_range s _).1 (bt_range s _).2
      rw [hm, Option.bind_some, restLet_step (by omega)]
      by_cases hc : m < 0
      · rw [if_pos hc]
        rw [decide_eq_true hc] at hm2
        have : letZ (bt s (i : Int)) = false := by simpa using hm2.symm
        rw [this]; rfl
      · rw [if_neg hc]
        rw [decide_eq_false hc] at hm2
        have : letZ (bt s (i : Int)) = true := by simpa using hm2.symm
        rw [this, w64 (x := (i : Int) + 1) (by omega) (by omega)]
        obtain ⟨m', rfl⟩ : ∃ m', n = m' + 1 := ⟨n - 1, by omega⟩
        exact ref_Letters_l0 s hs m' (i + 1) (k' + 1) (by omega) (by omega)
    · rw [if_neg h, restLet_end (by omega)]
      have e : decide ((s.size : Int) ≤ 16) = decide (s.size ≤ 16) := by
        by_cases h16 : s.size ≤ 16
        · rw [decide_eq_true h16, decide_eq_true (by omega)]
        · rw [decide_eq_false h16, decide_eq_false (by omega)]
      split
      · rw [e, decide_eq_true (show 1 ≤ s.size by omega)]; rfl
      · rw [decide_eq_false (show ¬ 1 ≤ s.size by omega)]; rfl
theorem ref_Letters (s : ByteArray) (hs : s.size ≤ 9223372036854775807) (k : Nat) (hk : s.size + 2 ≤ k) : vinculumref48_Letters.f k s = some (nameB s) := by
  have := ref_Letters_l0 s hs s.size 0 k (by omega) hk
  unfold vinculumref48_Letters.f
  rw [show (0 : Int) = ((0 : Nat) : Int) from rfl, this]
  rfl
end Go.Proofs.YtghdimmomnfakaaGreatDoor.Pure

set_option linter.unusedVariables false
set_option linter.unusedSimpArgs false
namespace Go.Proofs.YtghdimmomnfakaaGreatDoor.Pure
open Go.RowKit Go.Proofs.YtghdimmomnfakaaGreatDoorW.PrintWords Go.Proofs.YtghdimmomnfakaaGreatDoorW.PrintLast Go.Proofs.YtghdimmomnfakaaGreatDoorW.PrintMore Go.Proofs.YtghdimmomnfakaaGreatDoor.Gv Go.Proofs.YtghdimmomnfakaaGreatDoor.X
--@begin
/-- from a place on, a list has a string -/
def restIn (l : List ByteArray) (s : ByteArray) (i : Nat) : Bool := (l.drop i).any (fun x => decide (x.toList = s.toList))
theorem restIn_step {l : List ByteArray} {s : ByteArray} {i : Nat} (h : i < l.length) : restIn l s i = (decide ((rdOf ByteArray.empty l (i : Int)).toList = s.toList) || restIn l s (i + 1)) := by
  unfold restIn rdOf
  rw [List.drop_eq_getElem_cons h, List.any_cons]
  simp [List.getD_eq_getElem?_getD, List.getElem?_eq_getElem h]
theorem restIn_end {l : List ByteArray} {s : ByteArray} {i : Nat} (h : ¬ i < l.length) : restIn l s i = false := by
  unfold restIn
  rw [List.drop_eq_nil_of_le (by omega)]
  rfl
theorem impl_index_l0 (l : List ByteArray) (s : ByteArray) (hl : l.length ≤ 9223372036854775807) : ∀ n i k, l.length = i + n → n < k →
    ∃ r, Go.Proofs.YtghdimmomnfakaaGreatDoor.Y.slices_Index_string_string.l0 k l s (l.length : Int) (i : Int) = some r ∧ decide (r ≥ 0) = restIn l s i
  | n, i, 0, _, hk => by omega
  | n, i, k + 1, hi, hk => by
    rw [Go.Proofs.YtghdimmomnfakaaGreatDoor.Y.slices_Index_string_string.l0]
    by_cases h : (i : Int) < (l.length : Int)
    · rw [if_pos h, if_pos (by omega), if_pos h, restIn_step (by omega)]
      by_cases c : s.toList = (rdOf ByteArray.empty l (i : Int)).toList
      · rw [if_pos c]
        exact ⟨_, rfl, by rw [decide_eq_true c.symm, decide_eq_true (by omega)]; rfl⟩
      · rw [if_neg c, decide_eq_false (fun e => c e.symm), w64 (x := (i : Int) + 1) (by omega) (by omega), Bool.false_or]
        obtain ⟨m, rfl⟩ : ∃ m, n = m + 1 := ⟨n - 1, by omega⟩
        exact impl_index_l0 l s hl m (i + 1) k (by omega) (by omega)
    · rw [if_neg h, restIn_end (by omega)]
      exact ⟨_, rfl, by simp⟩
theorem impl_contains (l : List ByteArray) (s : ByteArray) (hl : l.length ≤ 9223372036854775807) (k : Nat) (hk : l.length < k) : Go.Proofs.YtghdimmomnfakaaGreatDoor.Y.slices_Contains_string_string.f k l s = some (restIn l s 0) := by
  obtain ⟨r, h1, h2⟩ := impl_index_l0 l s hl l.length 0 k (by omega) hk
  unfold Go.Proofs.YtghdimmomnfakaaGreatDoor.Y.slices_Contains_string_string.f Go.Proofs.YtghdimmomnfakaaGreatDoor.Y.slices_Index_string_string.f
  rw [show (0 : Int) = ((0 : Nat) : Int) from rfl, h1, Option.bind_some, ← h2]
  rfl
theorem ref_In_l0 (l : List ByteArray) (s : ByteArray) (hl : l.length ≤ 9223372036854775807) : ∀ n i k, l.length = i + n → n < k → vinculumref09_In.l0 k l s (i : Int) = some (restIn l s i)
  | n, i, 0, _, hk => by omega
  | n, i, k + 1, hi, hk => by
    rw [vinculumref09_In.l0]
    by_cases h : (i : Int) < (l.length : Int)
    · rw [if_pos h, if_pos (by omega), restIn_step (by omega)]
      by_cases c : (rdOf ByteArray.empty l (i : Int)).toList = s.toList
      · rw [if_pos c, decide_eq_true c]; rfl
      · rw [if_neg c, decide_eq_false c, w64 (x := (i : Int) + 1) (by omega) (by omega), Bool.false_or]
        obtain ⟨m, rfl⟩ : ∃ m, n = m + 1 := ⟨n - 1, by omega⟩
        exact ref_In_l0 l s hl m (i + 1) k (by omega) (by omega)
    · rw [if_neg h, restIn_end (by omega)]
theorem ref_In (l : List ByteArray) (s : ByteArray) (hl : l.length ≤ 9223372036854775807) (k : Nat) (hk : l.length < k) : vinculumref09_In.f k l s = some (restIn l s 0) := by
  unfold vinculumref09_In.f
  rw [show (0 : Int) = ((0 : Nat) : Int) from rfl, ref_In_l0 l s hl l.length 0 k (by omega) hk]
def accents : List ByteArray := [(⟨#[104, 97, 116]⟩ : ByteArray), (⟨#[98, 97, 114]⟩ : ByteArray), (⟨#[118, 101, 99]⟩ : ByteArray), (⟨#[100, 111, 116]⟩ : ByteArray), (⟨#[116, 105, 108, 100, 101]⟩ : ByteArray), (⟨#[99, 104, 101, 99, 107]⟩ : ByteArray)]
def keywords : List ByteArray := [(⟨#[102, 114, 97, 99]⟩ : ByteArray), (⟨#[114, 111, 111, 116]⟩ : ByteArray), (⟨#[109, 97, 116, 114, 105, 120]⟩ : ByteArray), (⟨#[102, 101, 110, 99, 101]⟩ : ByteArray)]
def chars : ByteArray := ⟨#[43, 45, 42, 47, 61, 60, 62, 44, 59, 58, 33, 124, 39, 63, 126, 64]⟩
/-- a symbol -/
def symB (s : ByteArray) : Bool :=
  if s.size = 1 then (letZ (bt s 0) || chars.data.toList.any (fun c => decide ((c.toNat : Int) = bt s 0)))
  else restLet s 0 && (decide (2 ≤ s.size) && (decide (s.size ≤ 16) && (!restIn accents s 0 && !restIn keywords s 0)))
theorem impl_rest_l0 (s : ByteArray) (hs : s.size ≤ 9223372036854775807) : ∀ n i k, s.size = i + n → n < k → Go.Proofs.YtghdimmomnfakaaGreatDoor.Y.node_Symbol.l0 k s (s.size : Int) (i : Int) = some (restLet s i)
  | n, i, 0, _, hk => by omega
  | n, i, k + 1, hi, hk => by
    rw [Go.Proofs.YtghdimmomnfakaaGreatDoor.Y.node_Symbol.l0]
    by_cases h : (i : Int) < (s.size : Int)
    · rw [if_pos h, if_pos (by omega), if_pos h, impl_letter, Option.bind_some, restLet_step (by omega)]
      cases hc : letZ (bt s (i : Int)) with
      | true =>
        rw [if_pos rfl, w64 (x := (i : Int) + 1) (by omega) (by omega), Bool.true_and]
        obtain ⟨m, rfl⟩ : ∃ m, n = m + 1 := ⟨n - 1, by omega⟩
        exact impl_rest_l0 s hs m (i + 1) k (by omega) (by omega)
      | false => rfl
    · rw [if_neg h, restLet_end (by omega)]
theorem one_char : ((List.range 256).all fun n => Lib.contains chars.data.toList [UInt8.ofNat n] == chars.data.toList.any (fun c => decide ((c.toNat : Int) = (n : Int)))) = true := by kernel_rfl
theorem size_one {s : ByteArray} (h : s.size = 1) : s.data.toList = [s[0]'(by omega)] := by
  have hl : s.data.toList.length = 1 := by simpa using h
  match hm : s.data.toList, hl with
  | [x], _ =>
    have : s[0]'(by omega) = s.data.toList[0]'(by omega) := by simp [ByteArray.getElem_eq_getElem_data]
    rw [this]
    simp [hm]
theorem contains_one {s : ByteArray} (h : s.size = 1) : Lib.contains chars.data.toList s.data.toList = chars.data.toList.any (fun c => decide ((c.toNat : Int) = bt s 0)) := by
  have h1 := bt_byte s 0 (by omega)
  rw [size_one h]
  have hb : (s[0]'(by omega)).toNat < 256 := (s[0]'(by omega)).toNat_lt
  have := List.all_eq_true.1 one_char ((s[0]'(by omega)).toNat) (by simpa using hb)
  rw [beq_iff_eq] at this
  rw [show UInt8.ofNat (s[0]'(by omega)).toNat = s[0]'(by omega) from by simp] at this
  rw [this]
  rw [show (0 : Int) = ((0 : Nat) : Int) from rfl, h1]
theorem impl_symbol (s : ByteArray) (hs : s.size ≤ 9223372036854775807) (k : Nat) (hk : s.size + 30 ≤ k) : Go.Proofs.YtghdimmomnfakaaGreatDoor.Y.node_Symbol.f k s = some (symB s) := by
  unfold Go.Proofs.YtghdimmomnfakaaGreatDoor.Y.node_Symbol.f symB
  by_cases h1 : s.size = 1
  · rw [if_pos (show (s.size : Int) = 1 by omega), if_pos (show 0 < (s.size : Int) by omega), if_pos h1, impl_letter, Option.bind_some]
    cases hc : letZ (bt s 0) with
    | true => rfl
    | false =>
      rw [if_neg (by simp)]
      have : strings_Contains.f (⟨#[43, 45, 42, 47, 61, 60, 62, 44, 59, 58, 33, 124, 39, 63, 126, 64]⟩ : ByteArray) s = some (Lib.contains chars.data.toList s.data.toList) := by
        unfold strings_Contains.f
        exact if_pos (by decide)
      rw [this, Option.bind_some, contains_one h1, Bool.false_or]
  · rw [if_neg (show ¬ (s.size : Int) = 1 by omega), if_neg h1]
    have j0 : ∀ b, Go.Proofs.YtghdimmomnfakaaGreatDoor.Y.node_Symbol.j0 k s b = some (!b && restLet s 0) := fun b => by
      obtain ⟨k', rfl⟩ : ∃ k', k = k' + 1 := ⟨k - 1, by omega⟩
      rw [Go.Proofs.YtghdimmomnfakaaGreatDoor.Y.node_Symbol.j0]
      cases b with
      | true => rfl
      | false =>
        rw [if_neg (by simp), show (0 : Int) = ((0 : Nat) : Int) from rfl, impl_rest_l0 s hs s.size 0 k' (by omega) (by omega)]
        rfl
    by_cases h2 : s.size < 2
    · rw [if_pos (by omega), j0, decide_eq_false (show ¬ 2 ≤ s.size by omega)]
      simp
    · rw [if_neg (by omega), decide_eq_true (show 2 ≤ s.size by omega)]
      by_cases h3 : s.size ≤ 16
      · rw [if_neg (by omega), decide_eq_true h3]
        have ha : Go.Proofs.YtghdimmomnfakaaGreatDoor.Y.node_accent.f k s = some (restIn accents s 0) := by
          unfold Go.Proofs.YtghdimmomnfakaaGreatDoor.Y.node_accent.f
          have := impl_contains accents s (by decide) k (by have : accents.length = 6 := rfl; omega)
          rw [show ([(⟨#[104, 97, 116]⟩ : ByteArray), (⟨#[98, 97, 114]⟩ : ByteArray), (⟨#[118, 101, 99]⟩ : ByteArray), (⟨#[100, 111, 116]⟩ : ByteArray), (⟨#[116, 105, 108, 100, 101]⟩ : ByteArray), (⟨#[99, 104, 101, 99, 107]⟩ : ByteArray)] : List ByteArray) = accents from rfl, this]
          rfl
        rw [ha, Option.bind_some]
        cases hA : restIn accents s 0 with
        | true => rw [if_pos rfl, j0]; simp
        | false =>
          rw [if_neg (by simp)]
          have := impl_contains keywords s (by decide) k (by have : keywords.length = 4 := rfl; omega)
          rw [show ([(⟨#[102, 114, 97, 99]⟩ : ByteArray), (⟨#[114, 111, 111, 116]⟩ : ByteArray), (⟨#[109, 97, 116, 114, 105, 120]⟩ : ByteArray), (⟨#[102, 101, 110, 99, 101]⟩ : ByteArray)] : List ByteArray) = keywords from rfl, this, Option.bind_some, j0]
          congr 1
          cases restLet s 0 <;> cases restIn keywords s 0 <;> rfl
      · rw [if_pos (by omega), j0, decide_eq_false h3]
        simp
theorem ref_has_l0 (l : ByteArray) (c : Int) (hl : l.size ≤ 9223372036854775807) : ∀ n i k, l.size = i + n → n < k → vinculumref09_has.l0 k l c (i : Int) = some ((l.data.toList.drop i).any (fun x => decide ((x.toNat : Int) = c)))
  | n, i, 0, _, hk => by omega
  | n, i, k + 1, hi, hk => by
    rw [vinculumref09_has.l0]
    by_cases h : (i : Int) < (l.size : Int)
    · have hll : i < l.data.toList.length := by simp; omega
      have hb : bt l (i : Int) = ((l.data.toList[i]).toNat : Int) := by
        rw [bt_byte l i (by omega)]
        simp [ByteArray.getElem_eq_getElem_data]
      rw [if_pos h, if_pos (by omega), List.drop_eq_getElem_cons hll, List.any_cons, hb]
      by_cases e : ((l.data.toList[i]).toNat : Int) = c
      · rw [if_pos e, decide_eq_true e]; rfl
      · rw [if_neg e, decide_eq_false e, w64 (x := (i : Int) + 1) (by omega) (by omega), Bool.false_or]
        obtain ⟨m, rfl⟩ : ∃ m, n = m + 1 := ⟨n - 1, by omega⟩
        exact ref_has_l0 l c hl m (i + 1) k (by omega) (by omega)
    · rw [if_neg h, List.drop_eq_nil_of_le (by simp; omega)]
      rfl
theorem ref_Character (c : Int) (k : Nat) (hk : 20 ≤ k) : vinculumref09_Character.f k c = some (letZ c || chars.data.toList.any (fun x => decide ((x.toNat : Int) = c))) := by
  unfold vinculumref09_Character.f
  rw [ref_Letter, Option.bind_some]
  cases hc : letZ c with
  | true => rfl
  | false =>
    have h := ref_has_l0 chars c (by decide) chars.size 0 k (by omega) (by have : chars.size = 16 := rfl; omega)
    unfold vinculumref09_has.f
    rw [if_neg (by simp), show (⟨#[43, 45, 42, 47, 61, 60, 62, 44, 59, 58, 33, 124, 39, 63, 126, 64]⟩ : ByteArray) = chars from rfl, show (0 : Int) = ((0 : Nat) : Int) from rfl, h, Option.bind_some]
    rfl
theorem ref_symbol_l0 (s : ByteArray) (hs : s.size ≤ 9223372036854775807) : ∀ n i k, s.size = i + n → n + 20 ≤ k →
    vinculumref09_Symbol.l0 k s (i : Int) = some (restLet s i && (decide (2 ≤ s.size) && (decide (s.size ≤ 16) && (!restIn accents s 0 && !restIn keywords s 0))))
  | n, i, 0, _, hk => by omega
  | n, i, k + 1, hi, hk => by
    rw [vinculumref09_Symbol.l0]
    by_cases h : (i : Int) < (s.size : Int)
    · rw [if_pos h, if_pos (by omega), ref_Letter, Option.bind_some, restLet_step (by omega)]
      cases hc : letZ (bt s (i : Int)) with
      | true =>
        rw [if_pos rfl, w64 (x := (i : Int) + 1) (by omega) (by omega), Bool.true_and]
        obtain ⟨m, rfl⟩ : ∃ m, n = m + 1 := ⟨n - 1, by omega⟩
        exact ref_symbol_l0 s hs m (i + 1) k (by omega) (by omega)
      | false => rfl
    · rw [if_neg h, restLet_end (by omega)]
      by_cases h2 : 2 ≤ s.size
      · rw [if_pos (by omega), decide_eq_true h2]
        by_cases h3 : s.size ≤ 16
        · have e1 : vinculumref09_In.f k keywords s = some (restIn keywords s 0) := ref_In keywords s (by decide) k (by have : keywords.length = 4 := rfl; omega)
          have e2 : vinculumref09_In.f k accents s = some (restIn accents s 0) := ref_In accents s (by decide) k (by have : accents.length = 6 := rfl; omega)
          have e3 : vinculumref09_Keywords.f = some keywords := rfl
          have e4 : vinculumref09_Accents.f = some accents := rfl
          rw [if_pos (by omega), decide_eq_true h3, e3, e4, Option.bind_some, e1, Option.bind_some, Option.bind_some, e2, Option.bind_some]
          cases restIn keywords s 0 <;> cases restIn accents s 0 <;> rfl
        · rw [if_neg (by omega), decide_eq_false h3]; rfl
      · rw [if_neg (by omega), decide_eq_false h2]; rfl
theorem ref_symbol (s : ByteArray) (hs : s.size ≤ 9223372036854775807) (k : Nat) (hk : s.size + 30 ≤ k) : vinculumref09_Symbol.f k s = some (symB s) := by
  unfold vinculumref09_Symbol.f symB
  by_cases h1 : s.size = 1
  · rw [if_pos (show (s.size : Int) = 1 by omega), if_pos (show 0 < (s.size : Int) by omega), if_pos h1, ref_Character _ k (by omega)]
    rfl
  · rw [if_neg (show ¬ (s.size : Int) = 1 by omega), if_neg h1, show (0 : Int) = ((0 : Nat) : Int) from rfl, ref_symbol_l0 s hs s.size 0 k (by omega) (by omega)]
--@end
end Go.Proofs.YtghdimmomnfakaaGreatDoor.Pure

set_option linter.unusedVariables false
set_option linter.unusedSimpArgs false
namespace Go.Proofs.YtghdimmomnfakaaGreatDoor.Pure
open Go.RowKit Go.Proofs.YtghdimmomnfakaaGreatDoorW.PrintWords Go.Proofs.YtghdimmomnfakaaGreatDoorW.PrintLast Go.Proofs.YtghdimmomnfakaaGreatDoorW.PrintMore Go.Proofs.YtghdimmomnfakaaGreatDoor.Gv Go.Proofs.YtghdimmomnfakaaGreatDoor.X
--@begin
/-- what a kind asks -/
def kindB (a0 : Int) (a1 : ByteArray) (a4 a5 : Int) : Bool :=
  if a0 = 1 then symB a1 else if a0 = 2 then symB a1 && decide (a4 = 0) else if a0 = 3 then symB a1 && decide (a5 = 0) else if a0 = 4 then decide (a1.size = 0) else false
/-- a proper rule -/
def prB (a0 : Int) (a1 a2 : ByteArray) (a3 a4 a5 : Int) : Bool :=
  nameB a2 && ((decide (1 ≤ a3) && decide (a3 ≤ 100)) && ((decide (0 ≤ a4) && decide (a4 ≤ 101)) && ((decide (0 ≤ a5) && decide (a5 ≤ 101)) && kindB a0 a1 a4 a5)))
theorem symB_empty {s : ByteArray} (h : s.size = 0) : symB s = false := by
  unfold symB
  rw [if_neg (by omega), decide_eq_false (show ¬ 2 ≤ s.size by omega)]
  simp
theorem range_min (l r : Int) : (decide (0 ≤ min l r) && decide (max l r ≤ 101)) = ((decide (0 ≤ l) && decide (l ≤ 101)) && (decide (0 ≤ r) && decide (r ≤ 101))) := by
  by_cases h1 : 0 ≤ l <;> by_cases h2 : l ≤ 101 <;> by_cases h3 : 0 ≤ r <;> by_cases h4 : r ≤ 101 <;>
    first
    | (rw [decide_eq_true h1, decide_eq_true h2, decide_eq_true h3, decide_eq_true h4, decide_eq_true (show 0 ≤ min l r by omega), decide_eq_true (show max l r ≤ 101 by omega)]; done)
    | (by_cases h5 : 0 ≤ min l r <;> by_cases h6 : max l r ≤ 101 <;> first | (exfalso; omega) | simp [h1, h2, h3, h4, h5, h6])
theorem impl_proper (a0 : Int) (a1 a2 : ByteArray) (a3 a4 a5 : Int) (hs : a1.size ≤ 9223372036854775807) (k : Nat) (hk : a1.size + 30 ≤ k) : grammar_proper.f k a0 a1 a2 a3 a4 a5 = some (prB a0 a1 a2 a3 a4 a5) := by
  have sym := impl_symbol a1 hs k hk
  have emp := @symB_empty a1
  unfold grammar_proper.f prB numsB
  rw [range_min, sym]
  by_cases c0 : a0 < 1
  · rw [if_pos c0]
    unfold kindB
    rw [if_neg (by omega), if_neg (by omega), if_neg (by omega), if_neg (by omega)]
    simp
  rw [if_neg c0]
  by_cases c4 : 4 < a0
  · rw [if_pos c4]
    unfold kindB
    rw [if_neg (by omega), if_neg (by omega), if_neg (by omega), if_neg (by omega)]
    simp
  rw [if_neg c4]
  cases hn : nameB a2 with
  | false => rfl
  | true =>
    rw [if_neg (by simp)]
    by_cases c1 : a3 < 1
    · rw [if_pos c1, decide_eq_false (show ¬ 1 ≤ a3 by omega)]; simp
    rw [if_neg c1, decide_eq_true (show 1 ≤ a3 by omega)]
    by_cases c2 : 100 < a3
    · rw [if_pos c2, decide_eq_false (show ¬ a3 ≤ 100 by omega)]; simp
    rw [if_neg c2, decide_eq_true (show a3 ≤ 100 by omega)]
    generalize (decide (0 ≤ a4) && decide (a4 ≤ 101)) = p
    generalize (decide (0 ≤ a5) && decide (a5 ≤ 101)) = q
    rcases (by omega : a0 = 1 ∨ a0 = 2 ∨ a0 = 3 ∨ a0 = 4) with rfl | rfl | rfl | rfl
    all_goals by_cases he : a1.size = 0
    all_goals by_cases h4 : a4 = 0
    all_goals by_cases h5 : a5 = 0
    all_goals cases hS : symB a1
    all_goals cases p
    all_goals cases q
    all_goals first
      | (simp [kindB, he, h4, h5, hS]; done)
      | (exfalso; have := emp he; rw [hS] at this; cases this)
theorem ref_within (a b c : Int) : vinculumref49_within.f a b c = some (decide (b ≤ a) && decide (a ≤ c)) := by
  unfold vinculumref49_within.f
  by_cases h : a ≥ b
  · rw [if_pos h, decide_eq_true (show b ≤ a from h)]; rfl
  · rw [if_neg h, decide_eq_false (show ¬ b ≤ a from h)]; rfl
theorem empty_list {s : ByteArray} : (s.toList == ([] : List UInt8)) = decide (s.size = 0) := by
  by_cases h : s.size = 0
  · have := empty_yes h
    rw [decide_eq_true h]
    cases hl : s.toList with
    | nil => rfl
    | cons x r => rw [hl] at this; cases this
  · have := empty_no h
    rw [decide_eq_false h]
    cases hl : s.toList with
    | nil => rw [hl] at this; cases this
    | cons x r => rfl
theorem ref_proper (a0 : Int) (a1 a2 : ByteArray) (a3 a4 a5 : Int) (hs : a1.size ≤ 9223372036854775807) (hs2 : a2.size ≤ 9223372036854775807) (k : Nat) (hk : a1.size + a2.size + 40 ≤ k) : vinculumref49_Proper.f k a0 a1 a2 a3 a4 a5 = some (prB a0 a1 a2 a3 a4 a5) := by
  have j0 : ∀ b, vinculumref49_Proper.j0 k b a0 a1 a2 a3 a4 a5 = some (!b && kindB a0 a1 a4 a5) := fun b => by
    obtain ⟨k', rfl⟩ : ∃ k', k = k' + 1 := ⟨k - 1, by omega⟩
    have sym := ref_symbol a1 hs k' (by omega)
    rw [vinculumref49_Proper.j0, sym]
    cases b with
    | true => rfl
    | false =>
      rw [if_neg (by simp)]
      unfold kindB
      by_cases c1 : a0 = 1
      · rw [if_pos c1, if_pos c1]; rfl
      rw [if_neg c1, if_neg c1]
      by_cases c2 : a0 = 2
      · rw [if_pos c2, if_pos c2]
        cases symB a1 <;> by_cases h : a4 = 0 <;> simp [h]
      rw [if_neg c2, if_neg c2]
      by_cases c3 : a0 = 3
      · rw [if_pos c3, if_pos c3]
        cases symB a1 <;> by_cases h : a5 = 0 <;> simp [h]
      rw [if_neg c3, if_neg c3]
      by_cases c4 : a0 = 4
      · rw [if_pos c4, if_pos c4, empty_list]; rfl
      rw [if_neg c4, if_neg c4]; rfl
  unfold vinculumref49_Proper.f prB
  rw [ref_Letters a2 hs2 k (by omega), Option.bind_some, ref_within, ref_within, ref_within, Option.bind_some, Option.bind_some, Option.bind_some, j0, j0]
  cases nameB a2 <;> cases (decide (1 ≤ a3) && decide (a3 ≤ 100)) <;> cases (decide (0 ≤ a4) && decide (a4 ≤ 101)) <;> cases (decide (0 ≤ a5) && decide (a5 ≤ 101)) <;> simp
--@end
end Go.Proofs.YtghdimmomnfakaaGreatDoor.Pure

set_option linter.unusedVariables false
set_option linter.unusedSimpArgs false
namespace Go.Proofs.YtghdimmomnfakaaGreatDoor.Pure
open Go.RowKit Go.Proofs.YtghdimmomnfakaaGreatDoorW.PrintWords Go.Proofs.YtghdimmomnfakaaGreatDoorW.PrintLast Go.Proofs.YtghdimmomnfakaaGreatDoorW.PrintMore Go.Proofs.YtghdimmomnfakaaGreatDoor.Gv Go.Proofs.YtghdimmomnfakaaGreatDoor.X
--@begin
def prR (x : S31) : Bool := prB x.f0 x.f1 x.f2 x.f3 x.f4 x.f5
/-- two rules clash -/
def cl (x y : S31) : Bool := decide (x.f0 = y.f0) && (decide (x.f1.toList = y.f1.toList) || decide (x.f2.toList = y.f2.toList))
theorem cl_symm (x y : S31) : cl x y = cl y x := by
  unfold cl
  have e1 : decide (x.f0 = y.f0) = decide (y.f0 = x.f0) := by congr 1; exact propext ⟨Eq.symm, Eq.symm⟩
  have e2 : decide (x.f1.toList = y.f1.toList) = decide (y.f1.toList = x.f1.toList) := by congr 1; exact propext ⟨Eq.symm, Eq.symm⟩
  have e3 : decide (x.f2.toList = y.f2.toList) = decide (y.f2.toList = x.f2.toList) := by congr 1; exact propext ⟨Eq.symm, Eq.symm⟩
  rw [e1, e2, e3]
theorem impl_clash (x y : S31) : clashP y.f0 y.f1 y.f2 y.f3 y.f4 y.f5 x = cl x y := by
  unfold clashP Go.Proofs.YtghdimmomnfakaaGreatDoor.Y.grammar_clash.f cl
  by_cases h1 : x.f0 = y.f0 <;> by_cases h2 : x.f1.toList = y.f1.toList <;> by_cases h3 : x.f2.toList = y.f2.toList <;> simp [h1, h2, h3]
theorem ref_clash (x y : S31) : vinculumref49_clash.f x.f0 x.f1 x.f2 x.f3 x.f4 x.f5 y.f0 y.f1 y.f2 y.f3 y.f4 y.f5 = some (cl x y) := by
  unfold vinculumref49_clash.f cl
  by_cases h1 : x.f0 = y.f0 <;> by_cases h2 : x.f1.toList = y.f1.toList <;> by_cases h3 : x.f2.toList = y.f2.toList <;> simp [h1, h2, h3]
/-- from place j on, one of n rules clashes with y -/
def clRest (l : List S31) (y : S31) : Nat → Nat → Bool
  | 0, _ => false
  | n + 1, j => cl (rd_T31 l (j : Int)) y || clRest l y n (j + 1)
theorem idxP_any (p : S31 → Bool) (l : List S31) : decide (0 ≤ idxP p l) = l.any p := by
  unfold idxP
  cases h : l.findIdx? p with
  | none =>
    rw [List.findIdx?_eq_none_iff] at h
    have : l.any p = false := by
      rw [List.any_eq_false]
      intro x hx
      simp [h x hx]
    rw [this]; rfl
  | some i =>
    rw [List.findIdx?_eq_some_iff_getElem] at h
    obtain ⟨hi, hp, _⟩ := h
    have : l.any p = true := List.any_eq_true.2 ⟨_, List.getElem_mem hi, hp⟩
    rw [this]
    exact decide_eq_true (by simp)
theorem clRest_any (l : List S31) (y : S31) : ∀ n j, j + n ≤ l.length → clRest l y n j = ((l.take (j + n)).drop j).any (fun x => cl x y)
  | 0, j, h => by
    rw [List.drop_eq_nil_of_le (by simp; omega)]
    rfl
  | n + 1, j, h => by
    have hj : j < (l.take (j + (n + 1))).length := by simp; omega
    rw [List.drop_eq_getElem_cons hj, List.any_cons, clRest, clRest_any l y n (j + 1) (by omega)]
    have e : rd_T31 l (j : Int) = (l.take (j + (n + 1)))[j] := by
      unfold rd_T31
      rw [show ((j : Int)).toNat = j from rfl, List.getD_eq_getElem?_getD, List.getElem?_eq_getElem (by omega)]
      simp
    rw [e, show j + 1 + n = j + (n + 1) by omega]
theorem impl_any (l : List S31) (y : S31) (i : Nat) (hi : i ≤ l.length) : api_Rule.f (l.take i) y.f0 y.f1 y.f2 y.f3 y.f4 y.f5 = some (clRest l y i 0) := by
  unfold api_Rule.f
  rw [idxP_any, clRest_any l y i 0 (by omega)]
  congr 1
  rw [Nat.zero_add, List.drop_zero]
  congr 1
  funext x
  exact impl_clash x y
/-- n rules from place i on are proper and clash with none ahead -/
def vRest (l : List S31) : Nat → Nat → Bool
  | 0, _ => true
  | n + 1, i => (prR (rd_T31 l (i : Int)) && !clRest l (rd_T31 l (i : Int)) i 0) && vRest l n (i + 1)
/-- rules whose strings are no longer than M -/
def smallR (M : Nat) (l : List S31) : Prop := ∀ j : Nat, j < l.length → (rd_T31 l (j : Int)).f1.size ≤ M ∧ (rd_T31 l (j : Int)).f2.size ≤ M
theorem impl_valid_l0 (l : List S31) (M : Nat) (hM : M ≤ 9223372036854775807) (hl : l.length ≤ 9223372036854775807) (hs : smallR M l) : ∀ n i k, l.length = i + n → n + M + 60 ≤ k →
    grammar_Valid.l0 k l l (l.length : Int) (i : Int) = some (vRest l n i)
  | n, i, 0, _, hk => by omega
  | n, i, k + 1, hi, hk => by
    rw [grammar_Valid.l0]
    by_cases h : (i : Int) < (l.length : Int)
    · obtain ⟨m, rfl⟩ : ∃ m, n = m + 1 := ⟨n - 1, by omega⟩
      have hsz := hs i (by omega)
      rw [if_pos h, if_pos (by omega), if_pos h, impl_proper _ _ _ _ _ _ (by omega) k (by omega), Option.bind_some, vRest]
      unfold prR
      cases prB (rd_T31 l (i : Int)).f0 (rd_T31 l (i : Int)).f1 (rd_T31 l (i : Int)).f2 (rd_T31 l (i : Int)).f3 (rd_T31 l (i : Int)).f4 (rd_T31 l (i : Int)).f5 with
      | false => rfl
      | true =>
        rw [if_pos rfl, if_pos (by omega), show ((i : Int)).toNat = i from rfl, impl_any l (rd_T31 l (i : Int)) i (by omega), Option.bind_some]
        cases clRest l (rd_T31 l (i : Int)) i 0 with
        | true => rfl
        | false =>
          rw [if_neg (by simp), w64 (x := (i : Int) + 1) (by omega) (by omega)]
          exact impl_valid_l0 l M hM hl hs m (i + 1) k (by omega) (by omega)
    · rw [if_neg h]
      obtain rfl : n = 0 := by omega
      rfl
theorem impl_valid (l : List S31) (M : Nat) (hM : M ≤ 9223372036854775807) (hl : l.length ≤ 9223372036854775807) (hs : smallR M l) (k : Nat) (hk : l.length + M + 60 ≤ k) : grammar_Valid.f k l = some (decide (l.length ≤ 64) && vRest l l.length 0) := by
  unfold grammar_Valid.f
  by_cases h : l.length ≤ 64
  · rw [if_neg (by omega), decide_eq_true h, show (0 : Int) = ((0 : Nat) : Int) from rfl, impl_valid_l0 l M hM hl hs l.length 0 k (by omega) hk]
    rfl
  · rw [if_pos (by omega), decide_eq_false h]
    rfl
end Go.Proofs.YtghdimmomnfakaaGreatDoor.Pure

set_option linter.unusedVariables false
set_option linter.unusedSimpArgs false
namespace Go.Proofs.YtghdimmomnfakaaGreatDoor.Pure
open Go.RowKit Go.Proofs.YtghdimmomnfakaaGreatDoorW.PrintWords Go.Proofs.YtghdimmomnfakaaGreatDoorW.PrintLast Go.Proofs.YtghdimmomnfakaaGreatDoorW.PrintMore Go.Proofs.YtghdimmomnfakaaGreatDoor.Gv Go.Proofs.YtghdimmomnfakaaGreatDoor.X
def itoaB (n : Int) : ByteArray := ⟨(Lib.itoa n).toArray⟩
def sp : ByteArray := ⟨#[32]⟩
/-- the words of a rule's line -/
def wordsR (x : S31) : List ByteArray :=
  if x.f0 = 1 then [⟨#[105, 110, 102, 105, 120]⟩, x.f1, x.f2, itoaB x.f3, itoaB x.f4, itoaB x.f5]
  else if x.f0 = 2 then [⟨#[112, 114, 101, 102, 105, 120]⟩, x.f1, x.f2, itoaB x.f3, itoaB x.f5]
  else if x.f0 = 3 then [⟨#[112, 111, 115, 116, 102, 105, 120]⟩, x.f1, x.f2, itoaB x.f3, itoaB x.f4]
  else [⟨#[106, 117, 120, 116, 97, 112, 111, 115, 101]⟩, x.f2, itoaB x.f3, itoaB x.f4, itoaB x.f5]
def lineB (x : S31) : ByteArray := ⟨(joinB (wordsR x) sp).toArray⟩
theorem itoa_f (n : Int) (h0 : -9223372036854775808 ≤ n) (h1 : n ≤ 9223372036854775807) : strconv_Itoa.f n = some (itoaB n) := by
  unfold strconv_Itoa.f
  rw [if_pos h0, if_pos h1]; rfl
theorem itoaB_size (n : Int) (h0 : -9223372036854775808 ≤ n) (h1 : n ≤ 9223372036854775807) : (itoaB n).size ≤ 21 := by
  have := Lib.itoa_length_le n h0 h1
  show (Lib.itoa n).toArray.size ≤ 21
  rw [List.size_toArray]; exact this
theorem joinB_len : ∀ (l : List ByteArray) (M : Nat), (∀ x ∈ l, x.size ≤ M) → (joinB l sp).length ≤ l.length * (M + 1)
  | [], M, _ => by simp [joinB, Lib.join_nil]
  | [x], M, h => by
    have := h x (by simp)
    have e : x.data.toList.length = x.size := by simp
    simp only [joinB, List.map_cons, List.map_nil, Lib.join_one, e, List.length_cons, List.length_nil]
    omega
  | x :: y :: r, M, h => by
    have hx := h x (by simp)
    have ih := joinB_len (y :: r) M (fun z hz => h z (by simp [hz]))
    have e : x.data.toList.length = x.size := by simp
    have e2 : (joinB (x :: y :: r) sp).length = x.size + 1 + (joinB (y :: r) sp).length := by
      simp only [joinB, List.map_cons, Lib.join_cons, Lib.joinTail, List.flatten_cons, List.length_append, e]
      show x.size + (1 + y.data.toList.length + _) = _
      omega
    rw [e2, List.length_cons, Nat.succ_mul]
    omega
theorem join_f (l : List ByteArray) (M : Nat) (h : ∀ x ∈ l, x.size ≤ M) (hl : l.length ≤ 10) (hM : M ≤ 1000000000000) : strings_Join.f l sp = some ⟨(joinB l sp).toArray⟩ := by
  have h1 := joinB_len l M h
  have h2 : l.length * (M + 1) ≤ 10 * (M + 1) := Nat.mul_le_mul_right _ hl
  unfold strings_Join.f
  rw [if_pos (by omega), if_pos (by omega)]
theorem prB_parts {x : S31} (h : prR x = true) : (x.f0 = 1 ∨ x.f0 = 2 ∨ x.f0 = 3 ∨ x.f0 = 4) ∧ (1 ≤ x.f3 ∧ x.f3 ≤ 100) ∧ (0 ≤ x.f4 ∧ x.f4 ≤ 101) ∧ (0 ≤ x.f5 ∧ x.f5 ≤ 101) ∧ nameB x.f2 = true ∧ kindB x.f0 x.f1 x.f4 x.f5 = true := by
  unfold prR prB at h
  simp only [Bool.and_eq_true, decide_eq_true_eq] at h
  obtain ⟨hn, ⟨h1, h2⟩, ⟨h3, h4⟩, ⟨h5, h6⟩, hk⟩ := h
  refine ⟨?_, ⟨h1, h2⟩, ⟨h3, h4⟩, ⟨h5, h6⟩, hn, hk⟩
  unfold kindB at hk
  by_cases a : x.f0 = 1
  · exact .inl a
  · by_cases b : x.f0 = 2
    · exact .inr (.inl b)
    · by_cases c : x.f0 = 3
      · exact .inr (.inr (.inl c))
      · by_cases d : x.f0 = 4
        · exact .inr (.inr (.inr d))
        · rw [if_neg a, if_neg b, if_neg c, if_neg d] at hk; cases hk
theorem words_size (x : S31) (M : Nat) (hM : 30 ≤ M) (h : prR x = true) (h1 : x.f1.size ≤ M) (h2 : x.f2.size ≤ M) : ∀ y ∈ wordsR x, y.size ≤ M := by
  obtain ⟨hk, p3, p4, p5, _, _⟩ := prB_parts h
  have i3 := itoaB_size x.f3 (by omega) (by omega)
  have i4 := itoaB_size x.f4 (by omega) (by omega)
  have i5 := itoaB_size x.f5 (by omega) (by omega)
  have k1 : (⟨#[105, 110, 102, 105, 120]⟩ : ByteArray).size = 5 := rfl
  have k2 : (⟨#[112, 114, 101, 102, 105, 120]⟩ : ByteArray).size = 6 := rfl
  have k3 : (⟨#[112, 111, 115, 116, 102, 105, 120]⟩ : ByteArray).size = 7 := rfl
  have k4 : (⟨#[106, 117, 120, 116, 97, 112, 111, 115, 101]⟩ : ByteArray).size = 9 := rfl
  intro y hy
  unfold wordsR at hy
  split at hy
  · simp only [List.mem_cons, List.not_mem_nil, or_false] at hy
    rcases hy with rfl | rfl | rfl | rfl | rfl | rfl <;> omega
  · split at hy
    · simp only [List.mem_cons, List.not_mem_nil, or_false] at hy
      rcases hy with rfl | rfl | rfl | rfl | rfl <;> omega
    · split at hy
      · simp only [List.mem_cons, List.not_mem_nil, or_false] at hy
        rcases hy with rfl | rfl | rfl | rfl | rfl <;> omega
      · simp only [List.mem_cons, List.not_mem_nil, or_false] at hy
        rcases hy with rfl | rfl | rfl | rfl | rfl <;> omega
theorem wordsR_len (x : S31) : (wordsR x).length ≤ 6 := by
  unfold wordsR
  split
  · simp
  · split
    · simp
    · split <;> simp
theorem line_f (x : S31) (M : Nat) (hM : 30 ≤ M) (hM2 : M ≤ 1000000) (h : prR x = true) (h1 : x.f1.size ≤ M) (h2 : x.f2.size ≤ M) (k : Nat) (hk : 3 ≤ k) : lineOf k x = some (lineB x) := by
  have hw := words_size x M hM h h1 h2
  have hl := wordsR_len x
  have hj := join_f (wordsR x) M hw (by omega) (by omega)
  obtain ⟨hkd, p3, p4, p5, _, _⟩ := prB_parts h
  have i3 := itoa_f x.f3 (by omega) (by omega)
  have i4 := itoa_f x.f4 (by omega) (by omega)
  have i5 := itoa_f x.f5 (by omega) (by omega)
  obtain ⟨k, rfl⟩ : ∃ m, k = m + 2 := ⟨k - 2, by omega⟩
  unfold lineOf Go.Proofs.YtghdimmomnfakaaGreatDoor.Z.grammar_line.f lineB
  rw [← hj]
  unfold sp
  rcases hkd with e | e | e | e
  · rw [e, show wrap64 ((1 : Int) - 1) = 0 by unfold wrap64; omega, show grammar_shapes.f 0 = some (⟨#[105, 110, 102, 105, 120]⟩, true, true, true) from rfl]
    simp only [if_true, Bool.false_eq_true, if_false, Option.bind_some, Go.Proofs.YtghdimmomnfakaaGreatDoor.Z.grammar_line.j0, Go.Proofs.YtghdimmomnfakaaGreatDoor.Z.grammar_line.j1, i3, i4, i5, List.length_cons, List.length_nil, List.length_append, wordsR, e, show ¬ ((2 : Int) = 1) by decide, show ¬ ((3 : Int) = 1) by decide, show ¬ ((3 : Int) = 2) by decide, show ¬ ((4 : Int) = 1) by decide, show ¬ ((4 : Int) = 2) by decide, show ¬ ((4 : Int) = 3) by decide]
    repeat rw [if_pos (by omega)]
    simp only [List.cons_append, List.nil_append]
    cases strings_Join.f _ _ <;> rfl
  · rw [e, show wrap64 ((2 : Int) - 1) = 1 by unfold wrap64; omega, show grammar_shapes.f 1 = some (⟨#[112, 114, 101, 102, 105, 120]⟩, true, false, true) from rfl]
    simp only [if_true, Bool.false_eq_true, if_false, Option.bind_some, Go.Proofs.YtghdimmomnfakaaGreatDoor.Z.grammar_line.j0, Go.Proofs.YtghdimmomnfakaaGreatDoor.Z.grammar_line.j1, i3, i4, i5, List.length_cons, List.length_nil, List.length_append, wordsR, e, show ¬ ((2 : Int) = 1) by decide, show ¬ ((3 : Int) = 1) by decide, show ¬ ((3 : Int) = 2) by decide, show ¬ ((4 : Int) = 1) by decide, show ¬ ((4 : Int) = 2) by decide, show ¬ ((4 : Int) = 3) by decide]
    repeat rw [if_pos (by omega)]
    simp only [List.cons_append, List.nil_append]
    cases strings_Join.f _ _ <;> rfl
  · rw [e, show wrap64 ((3 : Int) - 1) = 2 by unfold wrap64; omega, show grammar_shapes.f 2 = some (⟨#[112, 111, 115, 116, 102, 105, 120]⟩, true, true, false) from rfl]
    simp only [if_true, Bool.false_eq_true, if_false, Option.bind_some, Go.Proofs.YtghdimmomnfakaaGreatDoor.Z.grammar_line.j0, Go.Proofs.YtghdimmomnfakaaGreatDoor.Z.grammar_line.j1, i3, i4, i5, List.length_cons, List.length_nil, List.length_append, wordsR, e, show ¬ ((2 : Int) = 1) by decide, show ¬ ((3 : Int) = 1) by decide, show ¬ ((3 : Int) = 2) by decide, show ¬ ((4 : Int) = 1) by decide, show ¬ ((4 : Int) = 2) by decide, show ¬ ((4 : Int) = 3) by decide]
    repeat rw [if_pos (by omega)]
    simp only [List.cons_append, List.nil_append]
    cases strings_Join.f _ _ <;> rfl
  · rw [e, show wrap64 ((4 : Int) - 1) = 3 by unfold wrap64; omega, show grammar_shapes.f 3 = some (⟨#[106, 117, 120, 116, 97, 112, 111, 115, 101]⟩, false, true, true) from rfl]
    simp only [if_true, Bool.false_eq_true, if_false, Option.bind_some, Go.Proofs.YtghdimmomnfakaaGreatDoor.Z.grammar_line.j0, Go.Proofs.YtghdimmomnfakaaGreatDoor.Z.grammar_line.j1, i3, i4, i5, List.length_cons, List.length_nil, List.length_append, wordsR, e, show ¬ ((2 : Int) = 1) by decide, show ¬ ((3 : Int) = 1) by decide, show ¬ ((3 : Int) = 2) by decide, show ¬ ((4 : Int) = 1) by decide, show ¬ ((4 : Int) = 2) by decide, show ¬ ((4 : Int) = 3) by decide]
    repeat rw [if_pos (by omega)]
    simp only [List.cons_append, List.nil_append]
    cases strings_Join.f _ _ <;> rfl
end Go.Proofs.YtghdimmomnfakaaGreatDoor.Pure

set_option linter.unusedVariables false
set_option linter.unusedSimpArgs false
namespace Go.Proofs.YtghdimmomnfakaaGreatDoor.Gv
open Go.RowKit Go.Proofs.YtghdimmomnfakaaGreatDoorW.PrintWords Go.Proofs.YtghdimmomnfakaaGreatDoorW.PrintLast Go.Proofs.YtghdimmomnfakaaGreatDoorW.PrintMore
open Go.Proofs.YtghdimmomnfakaaGreatDoor.X (S31 k31 rd_T31 at_T31 z31)
open Go.Proofs.YtghdimmomnfakaaGreatDoor.Pure (prR lineB impl_proper line_f)
abbrev rule6 (x : S31) : Array Value := #[.int .i64 x.f0, .string x.f1, .string x.f2, .int .i64 x.f3, .int .i64 x.f4, .int .i64 x.f5]
abbrev Rule6 (w : World) (b : Nat) (x : S31) : Prop := w.heap[b]? = some (.cells (rule6 x) 31 (0, 0))
/-- the blocks of read: the result, the words, the reader, the kinds, the rule -/
structure Six (w : World) (B bw br bk bx : Nat) (L : List ByteArray) (p : Nat) (x : S31) : Prop where
  z : Rule6 w B z31
  rd : RdS w br bw L p
  k : w.heap[bk]? = some (.cells shapesC 58 (0, 0))
  x : Rule6 w bx x
  l1 : B < bw
  l2 : bw < br
  l3 : br < bk
  l4 : bk < bx
theorem Six.below {w w1 : World} {B bw br bk bx : Nat} {L : List ByteArray} {p : Nat} {x : S31} (h : Six w B bw br bk bx L p x) (hb : Below w.heap.size w w1) : Six w1 B bw br bk bx L p x :=
  ⟨blk_below h.z hb, h.rd.below hb, blk_below h.k hb, blk_below h.x hb, h.l1, h.l2, h.l3, h.l4⟩
theorem Six.step {w w1 : World} {B bw br bk bx : Nat} {L : List ByteArray} {p q : Nat} {x : S31} (h : Six w B bw br bk bx L p x) (hs : StepB br w w1) (hr : RdS w1 br bw L q) : Six w1 B bw br bk bx L q x := by
  have h1 := h.l1
  have h2 := h.l2
  have h3 := h.l3
  have h4 := h.l4
  exact ⟨hs.blk (by omega) h.z, hr, hs.blk (by omega) h.k, hs.blk (by omega) h.x, h1, h2, h3, h4⟩
theorem Six.set {w : World} {B bw br bk bx : Nat} {L : List ByteArray} {p : Nat} {x y : S31} (h : Six w B bw br bk bx L p x) (i : Nat) (v : Value) (e : (rule6 x).setIfInBounds i v = rule6 y) : Six (w.setCell ⟨bx, i, none⟩ v) B bw br bk bx L p y := by
  have h1 := h.l1
  have h2 := h.l2
  have h3 := h.l3
  have h4 := h.l4
  exact ⟨blk_far h.z (by show B ≠ bx; omega) _, ⟨blk_far h.rd.r (by show br ≠ bx; omega) _, blk_far h.rd.l (by show bw ≠ bx; omega) _⟩, blk_far h.k (by show bk ≠ bx; omega) _, blk_put h.x i _ e, h1, h2, h3, h4⟩
theorem below_setx {B bx i : Nat} {w w1 : World} {v : Value} (h : Below B w w1) (hB : B ≤ bx) : Below B w (w1.setCell ⟨bx, i, none⟩ v) := h.setCell hB _
theorem cells6 {w : World} {b : Nat} {x : S31} (h : Rule6 w b x) : w.cell? ⟨b, 0, none⟩ = some (.int .i64 x.f0) ∧ w.cell? ⟨b, 1, none⟩ = some (.string x.f1) ∧ w.cell? ⟨b, 2, none⟩ = some (.string x.f2) ∧ w.cell? ⟨b, 3, none⟩ = some (.int .i64 x.f3) ∧ w.cell? ⟨b, 4, none⟩ = some (.int .i64 x.f4) ∧ w.cell? ⟨b, 5, none⟩ = some (.int .i64 x.f5) :=
  ⟨(blk_cell h 0).trans rfl, (blk_cell h 1).trans rfl, (blk_cell h 2).trans rfl, (blk_cell h 3).trans rfl, (blk_cell h 4).trans rfl, (blk_cell h 5).trans rfl⟩
theorem store6 {w : World} {b : Nat} {y : S31} (h : Rule6 w b y) (x : S31) : Rule6 ((((((w.setCell ⟨b, 0, none⟩ (.int .i64 x.f0)).setCell ⟨b, 1, none⟩ (.string x.f1)).setCell ⟨b, 2, none⟩ (.string x.f2)).setCell ⟨b, 3, none⟩ (.int .i64 x.f3)).setCell ⟨b, 4, none⟩ (.int .i64 x.f4)).setCell ⟨b, 5, none⟩ (.int .i64 x.f5)) b x := by
  have h1 : Rule6 (w.setCell ⟨b, 0, none⟩ (.int .i64 x.f0)) b ⟨x.f0, y.f1, y.f2, y.f3, y.f4, y.f5⟩ := blk_put h 0 _ (by simp)
  have h2 : Rule6 ((w.setCell ⟨b, 0, none⟩ (.int .i64 x.f0)).setCell ⟨b, 1, none⟩ (.string x.f1)) b ⟨x.f0, x.f1, y.f2, y.f3, y.f4, y.f5⟩ := blk_put h1 1 _ (by simp)
  have h3 : Rule6 (((w.setCell ⟨b, 0, none⟩ (.int .i64 x.f0)).setCell ⟨b, 1, none⟩ (.string x.f1)).setCell ⟨b, 2, none⟩ (.string x.f2)) b ⟨x.f0, x.f1, x.f2, y.f3, y.f4, y.f5⟩ := blk_put h2 2 _ (by simp)
  have h4 : Rule6 ((((w.setCell ⟨b, 0, none⟩ (.int .i64 x.f0)).setCell ⟨b, 1, none⟩ (.string x.f1)).setCell ⟨b, 2, none⟩ (.string x.f2)).setCell ⟨b, 3, none⟩ (.int .i64 x.f3)) b ⟨x.f0, x.f1, x.f2, x.f3, y.f4, y.f5⟩ := blk_put h3 3 _ (by simp)
  have h5 : Rule6 (((((w.setCell ⟨b, 0, none⟩ (.int .i64 x.f0)).setCell ⟨b, 1, none⟩ (.string x.f1)).setCell ⟨b, 2, none⟩ (.string x.f2)).setCell ⟨b, 3, none⟩ (.int .i64 x.f3)).setCell ⟨b, 4, none⟩ (.int .i64 x.f4)) b ⟨x.f0, x.f1, x.f2, x.f3, x.f4, y.f5⟩ := blk_put h4 4 _ (by simp)
  exact blk_put h5 5 _ (by simp)
theorem below6 {B : Nat} {w w1 : World} {g : Nat} (h : Below B w w1) (hg : B ≤ g) (x : S31) : Below B w ((((((w1.setCell ⟨g, 0, none⟩ (.int .i64 x.f0)).setCell ⟨g, 1, none⟩ (.string x.f1)).setCell ⟨g, 2, none⟩ (.string x.f2)).setCell ⟨g, 3, none⟩ (.int .i64 x.f3)).setCell ⟨g, 4, none⟩ (.int .i64 x.f4)).setCell ⟨g, 5, none⟩ (.int .i64 x.f5)) :=
  (((((h.setCell hg _).setCell hg _).setCell hg _).setCell hg _).setCell hg _).setCell hg _
/-- the rule that a line's words tell, by its kind -/
def readX (j : Nat) (L : List ByteArray) : S31 := match j with
  | 0 => ⟨1, nthS L 1, nthS L 2, numG (nthS L 3), numG (nthS L 4), numG (nthS L 5)⟩
  | 1 => ⟨2, nthS L 1, nthS L 2, numG (nthS L 3), 0, numG (nthS L 4)⟩
  | 2 => ⟨3, nthS L 1, nthS L 2, numG (nthS L 3), numG (nthS L 4), 0⟩
  | _ => ⟨4, ⟨#[]⟩, nthS L 1, numG (nthS L 2), numG (nthS L 3), numG (nthS L 4)⟩
/-- what read answers -/
def readR (s : ByteArray) : S31 × Bool :=
  if kindIdx (nthS (partsS 32 s) 0) < 0 then (z31, false)
  else (readX (kindIdx (nthS (partsS 32 s) 0)).toNat (partsS 32 s), prR (readX (kindIdx (nthS (partsS 32 s) 0)).toNat (partsS 32 s)) && decide (lineB (readX (kindIdx (nthS (partsS 32 s) 0)).toNat (partsS 32 s)) = s))
theorem proper_any (x : S31) (w : World) (hG : Gw w) (hs : x.f1.size ≤ 1000000) : Calls Tryz.prog 21 #[.agg (rule6 x)] w fun e w' => e = .returned (.bool (prR x)) ∧ Below w.heap.size w w' :=
  grammar_proper.calls (x.f1.size + 30) _ _ _ _ _ _ _ w hG (impl_proper x.f0 x.f1 x.f2 x.f3 x.f4 x.f5 (by omega) _ (Nat.le_refl _))
theorem line_any (x : S31) (w : World) (hG : Gw w) (h1 : x.f1.size ≤ 1000000) (h2 : x.f2.size ≤ 1000000) (h : prR x = true) : Calls Tryz.prog 19 #[.agg (rule6 x)] w fun e w' => e = .returned (.string (lineB x)) ∧ Below w.heap.size w w' :=
  Go.Proofs.YtghdimmomnfakaaGreatDoor.Z.grammar_line.calls 3 _ _ _ _ _ _ _ w hG (line_f x 1000000 (by omega) (by omega) h h1 h2 3 (Nat.le_refl _))
set_option maxHeartbeats 4000000 in
set_option maxRecDepth 1000000 in
theorem read_none (s : ByteArray) (w : World) (hG : Ge w) (hs : s.size ≤ 1000000) (hL0 : 0 < (partsS 32 s).length) (hk : kindIdx (nthS (partsS 32 s) 0) = -1) :
    Calls Tryz.prog 11 #[.string s] w fun e w' => e = .returned (.tuple #[.agg (rule6 z31), .bool false]) ∧ Below w.heap.size w w' := by
  have HG := Aside0.mk hG
  have SPLIT := Aside0.mk (split_parts s 32 (w.alloc (.cells (rule6 z31) 31)) (Gw.below hG.g ((Below.refl _ _).alloc (Nat.le_refl _) _)) (by omega))
  have hlen := partsS_len 32 s
  have HLE := Aside0.mk (partsS_le 32 s)
  generalize partsS 32 s = L at *
  clear hG
  go_enter Tryz.func11, Tryz.ntmps11
  go_wp2_with fail
  refine SPLIT.out.mono ?_
  rintro e w1 ⟨rfl, hP, hw1⟩
  have Z1 := Aside0.mk (box_block hw1)
  have P1 := Aside0.mk (show Strs w1 (w.heap.size + 1) L 9 by have h := hP; simpa using h)
  have B1 := Aside0.mk (box_below hw1)
  have hl1 : w.heap.size + 1 < w1.heap.size := blk_lt P1.out
  clear hP hw1 SPLIT
  go_wp2_with fail
  refine (shapes_any _).mono ?_
  rintro e w2 ⟨rfl, hw2⟩
  have Z2 := Aside0.mk (blk_below (blk_alloc Z1.out _) hw2)
  have P2 := Aside0.mk ((show Strs (w1.alloc (.cells #[.slice (some ⟨w.heap.size + 1, 0, none⟩) L.length L.length] 55)) (w.heap.size + 1) L 9 from blk_alloc P1.out _).below hw2)
  have R2 := Aside0.mk (box_block hw2)
  have B2 := Aside0.mk (keepB (box_below hw2) B1.out)
  have hl2 : w1.heap.size < w2.heap.size := blk_lt R2.out
  clear hw2 Z1 P1 B1
  have hrv : restV (w.heap.size + 1) L.length 0 = .slice (some ⟨w.heap.size + 1, 0, none⟩) L.length L.length := by
    unfold restV; rw [if_pos hL0, Nat.sub_zero]
  have RD2 := Aside0.mk (show RdS (w2.alloc (.cells shapesC 58)) w1.heap.size (w.heap.size + 1) L 0 from ⟨by rw [hrv]; exact blk_alloc R2.out _, blk_alloc P2.out _⟩)
  clear hrv
  have WORD := Aside0.mk (word_any w1.heap.size (w.heap.size + 1) L 0 _ RD2.out (by omega) (by omega))
  go_wp2_with fail
  refine WORD.out.mono ?_
  rintro e w3 ⟨rfl, h3, hr3⟩
  have K3 := Aside0.mk (h3.blk (by omega) (blk_new w2 (.cells shapesC 58)))
  have Z3 := Aside0.mk (h3.blk (by omega) (blk_alloc Z2.out (.cells shapesC 58)))
  have RD3 := Aside0.mk hr3
  have B3 := Aside0.mk (h3.below (by omega) (B2.out.alloc B2.out.size _))
  have hl3 : w2.heap.size < w3.heap.size := blk_lt K3.out
  clear h3 hr3 Z2 P2 R2 B2 RD2 WORD
  have IDX := Aside0.mk (indexShape w2.heap.size w3.heap.size (nthS L 0) (w3.alloc (.cells #[.string (nthS L 0)] 9)) (blk_alloc K3.out _) (blk_new _ _))
  have idx := IDX.out
  rw [hk] at idx
  clear hk
  go_wp2_with fail
  refine idx.mono ?_
  rintro e w4 ⟨rfl, hw4⟩
  have K4 := Aside0.mk (blk_below (blk_alloc K3.out _) hw4)
  have Z4 := Aside0.mk (blk_below (blk_alloc Z3.out _) hw4)
  have RD4 := Aside0.mk (RdS.below (show RdS (w3.alloc (.cells #[.string (nthS L 0)] 9)) w1.heap.size (w.heap.size + 1) L 1 from ⟨blk_alloc RD3.out.r _, blk_alloc RD3.out.l _⟩) hw4)
  have B4 := Aside0.mk (keepB (box_below hw4) B3.out)
  have hl4 : w2.heap.size < w4.heap.size := blk_lt K4.out
  clear hw4 idx IDX K3 Z3 RD3 B3 hl3
  obtain ⟨z0, z1, z2, z3, z4, z5⟩ := cells6 Z4.out
  have f0 := blk_frozen (Z4.out) 0
  have f1 := blk_frozen (Z4.out) 1
  have f2 := blk_frozen (Z4.out) 2
  have f3 := blk_frozen (Z4.out) 3
  have f4 := blk_frozen (Z4.out) 4
  have f5 := blk_frozen (Z4.out) 5
  go_wp2
  exact bodyPost_ret (results_ct (p := 2) (u := 3) rfl _ _ w.heap.size 31 (rule6 z31) (0, 0) _ rfl (store6 Z4.out z31) Tryz.underlying31 rfl (by kernel_rfl)) rfl ⟨rfl, below6 B4.out (Nat.le_refl _) z31⟩
end Go.Proofs.YtghdimmomnfakaaGreatDoor.Gv
