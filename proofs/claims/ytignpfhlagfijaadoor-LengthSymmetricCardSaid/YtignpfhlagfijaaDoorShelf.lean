/-
  Contracts of Go's library at this seat's own numbers: laid by the kit's shelf (its plain mode), cut down to what is used.
-/
import Derived.Shelf.Strings.Trim
import Derived.Shelf.Small.Utf8
import Derived.Shelf.Small.Strs
import Derived.Shelf.Small.Wraps
import Derived.Shelf.Strconv.Atoi
import Derived.Shelf.Strconv.Itoa0
import Derived.Shelf.Strconv.Itoa1
import Derived.Shelf.LaysM
import Derived.Shelf.Strconv.Itoa2
import Derived.Shelf.Strconv.Itoa3
import Derived.Shelf.Strconv.AtoiErrFast
import Derived.Shelf.Strconv.ParseIntEmpty
import Derived.Shelf.Strconv.AtoiFail
import Derived.Shelf.Strconv.Clone
import Derived.Shelf.Strconv.SyntaxError
import Derived.Shelf.LaysC
import Derived.Shelf.Strconv.ToError
import Derived.Shelf.Strconv.Lower
import Derived.Shelf.Strconv.ParseUint10
import Derived.Shelf.Strconv.ParseUint10Empty
import Derived.Shelf.Strconv.ParseUint10Any
import Derived.Shelf.Strconv.ParseInt10
import Derived.Shelf.Strconv.AtoiLong
import Derived.Shelf.Strconv.AtoiInnerAll
import Derived.Shelf.Strconv.RangeError
import Derived.Shelf.Strconv.ToErrorRange
import Derived.Shelf.Strconv.AtoiAll
import Derived.Shelf.Strings.Search1
import Derived.Shelf.Strings.Search2
import Derived.Shelf.Strings.Cut
import Derived.Shelf.Strings.Shaped
import Derived.Shelf.Strings.Prefix
import Derived.Shelf.Strings.Runes
import Derived.Shelf.Strings.AsciiSet
import Derived.Shelf.Unicode.DecodeSlow
import Derived.Test.YtignpfhlagfijaaDoorProg
namespace Go.Proofs
open Go.Shelf
def Tryd.lays162_ren : Go.Shelf.Ren := ⟨fun | 162 => 30 | 232 => 40 | 227 => 41 | 234 => 42 | 236 => 43 | 228 => 50 | 271 => 51 | 151 => 52 | 120 => 65 | 197 => 66 | 152 => 67 | 260 => 80 | 137 => 81 | 119 => 82 | 224 => 70 | 225 => 69 | 217 => 68 | 266 => 83 | n => n, fun | 9 => 9 | 4 => 4 | 3 => 3 | 5 => 5 | 117 => 55 | 116 => 54 | 0 => 0 | 124 => 58 | 21 => 21 | 105 => 63 | 46 => 82 | 119 => 103 | 139 => 106 | 138 => 105 | n => n, fun | 3 => 4 | 4 => 5 | n => n⟩
theorem Tryd.lays162 : Go.Proofs.Lays.n162 Tryd.prog Tryd.lays162_ren := {
  mixed := by kernel_rfl
  f119 := Tryd.func82.trans (congrArg some (by kernel_rfl))
  f120 := Tryd.func65.trans (congrArg some (by kernel_rfl))
  f137 := Tryd.func81.trans (congrArg some (by kernel_rfl))
  f151 := Tryd.func52.trans (congrArg some (by kernel_rfl))
  f152 := Tryd.func67.trans (congrArg some (by kernel_rfl))
  f162 := Tryd.func30.trans (congrArg some (by kernel_rfl))
  f197 := Tryd.func66.trans (congrArg some (by kernel_rfl))
  f217 := Tryd.func68.trans (congrArg some (by kernel_rfl))
  f224 := Tryd.func70.trans (congrArg some (by kernel_rfl))
  f225 := Tryd.func69.trans (congrArg some (by kernel_rfl))
  f227 := Tryd.func41.trans (congrArg some (by kernel_rfl))
  f228 := Tryd.func50.trans (congrArg some (by kernel_rfl))
  f232 := Tryd.func40.trans (congrArg some (by kernel_rfl))
  f234 := Tryd.func42.trans (congrArg some (by kernel_rfl))
  f236 := Tryd.func43.trans (congrArg some (by kernel_rfl))
  f260 := Tryd.func80.trans (congrArg some (by kernel_rfl))
  f266 := Tryd.func83.trans (congrArg some (by kernel_rfl))
  f271 := Tryd.func51.trans (congrArg some (by kernel_rfl))
  t0 := Tryd.underlying0
  a0 := Tryd.isAgg0
  z0 := Tryd.sizeOf0
  v0 := Tryd.zeroValue0
  t3 := Tryd.underlying3
  a3 := Tryd.isAgg3
  z3 := Tryd.sizeOf3
  v3 := Tryd.zeroValue3
  t4 := Tryd.underlying4
  a4 := Tryd.isAgg4
  z4 := Tryd.sizeOf4
  v4 := Tryd.zeroValue4
  t5 := Tryd.underlying5
  a5 := Tryd.isAgg5
  z5 := Tryd.sizeOf5
  v5 := Tryd.zeroValue5
  t9 := Tryd.underlying9
  a9 := Tryd.isAgg9
  z9 := Tryd.sizeOf9
  v9 := Tryd.zeroValue9
  t21 := Tryd.underlying21
  a21 := Tryd.isAgg21
  z21 := Tryd.sizeOf21
  v21 := Tryd.zeroValue21
  t46 := Tryd.underlying82
  a46 := Tryd.isAgg82
  z46 := Tryd.sizeOf82
  v46 := Tryd.zeroValue82
  t105 := Tryd.underlying63
  a105 := Tryd.isAgg63
  z105 := Tryd.sizeOf63
  v105 := Tryd.zeroValue63
  t116 := Tryd.underlying54
  a116 := Tryd.isAgg54
  z116 := Tryd.sizeOf54
  t117 := Tryd.underlying55
  a117 := Tryd.isAgg55
  z117 := Tryd.sizeOf55
  v117 := Tryd.zeroValue55
  t119 := Tryd.underlying103
  a119 := Tryd.isAgg103
  z119 := Tryd.sizeOf103
  t124 := Tryd.underlying58
  a124 := Tryd.isAgg58
  z124 := Tryd.sizeOf58
  v124 := Tryd.zeroValue58
  t138 := Tryd.underlying105
  a138 := Tryd.isAgg105
  z138 := Tryd.sizeOf105
  v138 := Tryd.zeroValue105
  t139 := Tryd.underlying106
  a139 := Tryd.isAgg106
  z139 := Tryd.sizeOf106
  v139 := Tryd.zeroValue106
  g3 := by kernel_rfl
  g4 := by kernel_rfl }
open Go.RowKit in
theorem Tryd.strings_TrimRight_one (s : ByteArray) (c : UInt8) (hc : c.toNat < 128) (w : World) (hs : s.size ≤ 9223372036854775807) :
    Calls Tryd.prog 30 #[.string s, .string ⟨#[c]⟩] w fun e w' => e = .returned (.string ⟨(Lib.trimRightB s.data.toList c).toArray⟩) ∧ w' = w := Any.strings_TrimRight_one Tryd.lays162 s c hc w hs
def Tryd.lays103_ren : Go.Shelf.Ren := ⟨fun | 103 => 32 | 210 => 45 | 206 => 54 | n => n, fun | 9 => 9 | 4 => 4 | 24 => 43 | 3 => 3 | n => n, fun | n => n⟩
theorem Tryd.lays103 : Go.Proofs.Lays.n103 Tryd.prog Tryd.lays103_ren := {
  mixed := by kernel_rfl
  f103 := Tryd.func32.trans (congrArg some (by kernel_rfl))
  f206 := Tryd.func54.trans (congrArg some (by kernel_rfl))
  f210 := Tryd.func45.trans (congrArg some (by kernel_rfl))
  t3 := Tryd.underlying3
  a3 := Tryd.isAgg3
  z3 := Tryd.sizeOf3
  v3 := Tryd.zeroValue3
  t4 := Tryd.underlying4
  a4 := Tryd.isAgg4
  z4 := Tryd.sizeOf4
  v4 := Tryd.zeroValue4
  t9 := Tryd.underlying9
  a9 := Tryd.isAgg9
  z9 := Tryd.sizeOf9
  v9 := Tryd.zeroValue9
  t24 := Tryd.underlying43
  a24 := Tryd.isAgg43
  z24 := Tryd.sizeOf43
  v24 := Tryd.zeroValue43 }
open Go.RowKit in
theorem Tryd.strings_CutPrefix (s p : ByteArray) (w : World) :
    Calls Tryd.prog 32 #[.string s, .string p] w fun e w' => e = .returned (.tuple #[.string ⟨(Lib.trimPrefix s.data.toList p.data.toList).toArray⟩, .bool (Lib.hasPrefix s.data.toList p.data.toList)]) ∧ w' = w := Any.strings_CutPrefix Tryd.lays103 s p w
def Tryd.lays104_ren : Go.Shelf.Ren := ⟨fun | 104 => 31 | 211 => 44 | 207 => 53 | n => n, fun | 9 => 9 | 4 => 4 | 24 => 43 | 3 => 3 | n => n, fun | n => n⟩
theorem Tryd.lays104 : Go.Proofs.Lays.n104 Tryd.prog Tryd.lays104_ren := {
  mixed := by kernel_rfl
  f104 := Tryd.func31.trans (congrArg some (by kernel_rfl))
  f207 := Tryd.func53.trans (congrArg some (by kernel_rfl))
  f211 := Tryd.func44.trans (congrArg some (by kernel_rfl))
  t3 := Tryd.underlying3
  a3 := Tryd.isAgg3
  z3 := Tryd.sizeOf3
  v3 := Tryd.zeroValue3
  t4 := Tryd.underlying4
  a4 := Tryd.isAgg4
  z4 := Tryd.sizeOf4
  v4 := Tryd.zeroValue4
  t9 := Tryd.underlying9
  a9 := Tryd.isAgg9
  z9 := Tryd.sizeOf9
  v9 := Tryd.zeroValue9
  t24 := Tryd.underlying43
  a24 := Tryd.isAgg43
  z24 := Tryd.sizeOf43
  v24 := Tryd.zeroValue43 }
open Go.RowKit in
theorem Tryd.strings_CutSuffix (s p : ByteArray) (w : World) (hs : s.size ≤ 9223372036854775807) :
    Calls Tryd.prog 31 #[.string s, .string p] w fun e w' => e = .returned (.tuple #[.string ⟨(Lib.trimSuffix s.data.toList p.data.toList).toArray⟩, .bool (Lib.hasSuffix s.data.toList p.data.toList)]) ∧ w' = w := Any.strings_CutSuffix Tryd.lays104 s p w hs
def Tryd.laysM171_ren : Go.Shelf.Ren := ⟨fun | 171 => 29 | 243 => 39 | 246 => 49 | 283 => 61 | 284 => 62 | 285 => 63 | 286 => 64 | 129 => 76 | 317 => 75 | 318 => 77 | 319 => 78 | 320 => 79 | 337 => 87 | 338 => 88 | n => n, fun | 3 => 3 | 9 => 9 | 2 => 2 | 4 => 4 | 171 => 74 | 0 => 0 | 53 => 75 | 37 => 60 | 5 => 5 | 173 => 78 | 212 => 90 | 51 => 91 | 20 => 20 | 213 => 92 | 46 => 82 | 232 => 107 | 233 => 108 | n => n, fun | 17 => 3 | 18 => 6 | 19 => 7 | n => n⟩
theorem Tryd.laysM171 : Go.Proofs.LaysM.n171 Tryd.prog Tryd.laysM171_ren := {
  mixed := by kernel_rfl
  f129 := Tryd.func76.trans (congrArg some (by kernel_rfl))
  f171 := Tryd.func29.trans (congrArg some (by kernel_rfl))
  f243 := Tryd.func39.trans (congrArg some (by kernel_rfl))
  f246 := Tryd.func49.trans (congrArg some (by kernel_rfl))
  f283 := Tryd.func61.trans (congrArg some (by kernel_rfl))
  f284 := Tryd.func62.trans (congrArg some (by kernel_rfl))
  f285 := Tryd.func63.trans (congrArg some (by kernel_rfl))
  f286 := Tryd.func64.trans (congrArg some (by kernel_rfl))
  f317 := Tryd.func75.trans (congrArg some (by kernel_rfl))
  f318 := Tryd.func77.trans (congrArg some (by kernel_rfl))
  f319 := Tryd.func78.trans (congrArg some (by kernel_rfl))
  f320 := Tryd.func79.trans (congrArg some (by kernel_rfl))
  f337 := Tryd.func87.trans (congrArg some (by kernel_rfl))
  f338 := Tryd.func88.trans (congrArg some (by kernel_rfl))
  t0 := Tryd.underlying0
  a0 := Tryd.isAgg0
  z0 := Tryd.sizeOf0
  v0 := Tryd.zeroValue0
  t2 := Tryd.underlying2
  a2 := Tryd.isAgg2
  z2 := Tryd.sizeOf2
  v2 := Tryd.zeroValue2
  t3 := Tryd.underlying3
  a3 := Tryd.isAgg3
  z3 := Tryd.sizeOf3
  v3 := Tryd.zeroValue3
  t4 := Tryd.underlying4
  a4 := Tryd.isAgg4
  z4 := Tryd.sizeOf4
  v4 := Tryd.zeroValue4
  t5 := Tryd.underlying5
  a5 := Tryd.isAgg5
  z5 := Tryd.sizeOf5
  v5 := Tryd.zeroValue5
  t9 := Tryd.underlying9
  a9 := Tryd.isAgg9
  z9 := Tryd.sizeOf9
  v9 := Tryd.zeroValue9
  t20 := Tryd.underlying20
  a20 := Tryd.isAgg20
  z20 := Tryd.sizeOf20
  v20 := Tryd.zeroValue20
  t37 := Tryd.underlying60
  a37 := Tryd.isAgg60
  z37 := Tryd.sizeOf60
  v37 := Tryd.zeroValue60
  t46 := Tryd.underlying82
  a46 := Tryd.isAgg82
  z46 := Tryd.sizeOf82
  v46 := Tryd.zeroValue82
  t51 := Tryd.underlying91
  a51 := Tryd.isAgg91
  z51 := Tryd.sizeOf91
  v51 := Tryd.zeroValue91
  t53 := Tryd.underlying75
  a53 := Tryd.isAgg75
  z53 := Tryd.sizeOf75
  v53 := Tryd.zeroValue75
  t171 := Tryd.underlying74
  a171 := Tryd.isAgg74
  z171 := Tryd.sizeOf74
  v171 := Tryd.zeroValue74
  t173 := Tryd.underlying78
  a173 := Tryd.isAgg78
  z173 := Tryd.sizeOf78
  v173 := Tryd.zeroValue78
  t212 := Tryd.underlying90
  a212 := Tryd.isAgg90
  z212 := Tryd.sizeOf90
  v212 := Tryd.zeroValue90
  t213 := Tryd.underlying92
  a213 := Tryd.isAgg92
  z213 := Tryd.sizeOf92
  t232 := Tryd.underlying107
  a232 := Tryd.isAgg107
  z232 := Tryd.sizeOf107
  v232 := Tryd.zeroValue107
  t233 := Tryd.underlying108
  a233 := Tryd.isAgg108
  z233 := Tryd.sizeOf108
  v233 := Tryd.zeroValue108
  g17 := by kernel_rfl
  g18 := by kernel_rfl
  g19 := by kernel_rfl
  i0 := by kernel_rfl
  i2 := by kernel_rfl
  i3 := by kernel_rfl
  i4 := by kernel_rfl
  i5 := by kernel_rfl
  i9 := by kernel_rfl
  i20 := by kernel_rfl
  i37 := by kernel_rfl
  i46 := by kernel_rfl
  i51 := by kernel_rfl
  i53 := by kernel_rfl
  i171 := by kernel_rfl
  i173 := by kernel_rfl
  i212 := by kernel_rfl
  i232 := by kernel_rfl
  i233 := by kernel_rfl
  m17 := by kernel_rfl
  m18 := by kernel_rfl
  m19 := by kernel_rfl }
open Go.RowKit Go.Sort Go.Lib in
theorem Tryd.strconv_Itoa (n : Int) (h0 : -9223372036854775808 ≤ n) (h1 : n ≤ 9223372036854775807) (w : World) (htab : Lib.TabIs Tryd.prog w "internal/strconv.uint64pow10" .u64 Lib.pow10Tab) :
    Calls Tryd.prog 29 #[.int .i64 n] w fun e w' => e = .returned (.string ⟨(Lib.itoa n).toArray⟩) ∧ ∃ k os, w' = grow (w.drewN k) os := Any.strconv_Itoa Tryd.laysM171 n h0 h1 w htab
def Tryd.laysC172_ren : Go.Shelf.Ren := ⟨fun | 172 => 35 | 244 => 47 | 245 => 48 | 247 => 56 | 279 => 57 | 280 => 58 | 281 => 59 | 282 => 60 | 287 => 72 | 316 => 73 | 171 => 29 | 205 => 74 | 321 => 85 | 322 => 86 | 243 => 39 | 246 => 49 | 283 => 61 | 284 => 62 | 285 => 63 | 286 => 64 | 129 => 76 | 317 => 75 | 318 => 77 | 319 => 78 | 320 => 79 | 337 => 87 | 338 => 88 | n => n, fun | 9 => 9 | 3 => 3 | 75 => 48 | 76 => 49 | 4 => 4 | 5 => 5 | 167 => 68 | 37 => 60 | 0 => 0 | 85 => 69 | 2 => 2 | 168 => 71 | 53 => 75 | 175 => 83 | 46 => 82 | 210 => 87 | 127 => 98 | 145 => 101 | 143 => 99 | 21 => 21 | 171 => 74 | 173 => 78 | 212 => 90 | 51 => 91 | 20 => 20 | 213 => 92 | 232 => 107 | 233 => 108 | 80 => 109 | n => n, fun | 15 => 1 | 16 => 2 | 17 => 3 | 18 => 6 | 19 => 7 | n => n⟩
theorem Tryd.laysC172 : Go.Proofs.LaysC.n172 Tryd.prog Tryd.laysC172_ren := {
  mixed := by kernel_rfl
  f129 := Tryd.func76.trans (congrArg some (by kernel_rfl))
  f171 := Tryd.func29.trans (congrArg some (by kernel_rfl))
  f172 := Tryd.func35.trans (congrArg some (by kernel_rfl))
  f205 := Tryd.func74.trans (congrArg some (by kernel_rfl))
  f243 := Tryd.func39.trans (congrArg some (by kernel_rfl))
  f244 := Tryd.func47.trans (congrArg some (by kernel_rfl))
  f245 := Tryd.func48.trans (congrArg some (by kernel_rfl))
  f246 := Tryd.func49.trans (congrArg some (by kernel_rfl))
  f247 := Tryd.func56.trans (congrArg some (by kernel_rfl))
  f279 := Tryd.func57.trans (congrArg some (by kernel_rfl))
  f280 := Tryd.func58.trans (congrArg some (by kernel_rfl))
  f281 := Tryd.func59.trans (congrArg some (by kernel_rfl))
  f282 := Tryd.func60.trans (congrArg some (by kernel_rfl))
  f283 := Tryd.func61.trans (congrArg some (by kernel_rfl))
  f284 := Tryd.func62.trans (congrArg some (by kernel_rfl))
  f285 := Tryd.func63.trans (congrArg some (by kernel_rfl))
  f286 := Tryd.func64.trans (congrArg some (by kernel_rfl))
  f287 := Tryd.func72.trans (congrArg some (by kernel_rfl))
  f316 := Tryd.func73.trans (congrArg some (by kernel_rfl))
  f317 := Tryd.func75.trans (congrArg some (by kernel_rfl))
  f318 := Tryd.func77.trans (congrArg some (by kernel_rfl))
  f319 := Tryd.func78.trans (congrArg some (by kernel_rfl))
  f320 := Tryd.func79.trans (congrArg some (by kernel_rfl))
  f321 := Tryd.func85.trans (congrArg some (by kernel_rfl))
  f322 := Tryd.func86.trans (congrArg some (by kernel_rfl))
  f337 := Tryd.func87.trans (congrArg some (by kernel_rfl))
  f338 := Tryd.func88.trans (congrArg some (by kernel_rfl))
  t0 := Tryd.underlying0
  a0 := Tryd.isAgg0
  z0 := Tryd.sizeOf0
  v0 := Tryd.zeroValue0
  t2 := Tryd.underlying2
  a2 := Tryd.isAgg2
  z2 := Tryd.sizeOf2
  v2 := Tryd.zeroValue2
  t3 := Tryd.underlying3
  a3 := Tryd.isAgg3
  z3 := Tryd.sizeOf3
  v3 := Tryd.zeroValue3
  t4 := Tryd.underlying4
  a4 := Tryd.isAgg4
  z4 := Tryd.sizeOf4
  v4 := Tryd.zeroValue4
  t5 := Tryd.underlying5
  a5 := Tryd.isAgg5
  z5 := Tryd.sizeOf5
  v5 := Tryd.zeroValue5
  t9 := Tryd.underlying9
  a9 := Tryd.isAgg9
  z9 := Tryd.sizeOf9
  v9 := Tryd.zeroValue9
  t20 := Tryd.underlying20
  a20 := Tryd.isAgg20
  z20 := Tryd.sizeOf20
  v20 := Tryd.zeroValue20
  t21 := Tryd.underlying21
  a21 := Tryd.isAgg21
  z21 := Tryd.sizeOf21
  v21 := Tryd.zeroValue21
  t37 := Tryd.underlying60
  a37 := Tryd.isAgg60
  z37 := Tryd.sizeOf60
  v37 := Tryd.zeroValue60
  t46 := Tryd.underlying82
  a46 := Tryd.isAgg82
  z46 := Tryd.sizeOf82
  v46 := Tryd.zeroValue82
  t51 := Tryd.underlying91
  a51 := Tryd.isAgg91
  z51 := Tryd.sizeOf91
  v51 := Tryd.zeroValue91
  t53 := Tryd.underlying75
  a53 := Tryd.isAgg75
  z53 := Tryd.sizeOf75
  v53 := Tryd.zeroValue75
  t75 := Tryd.underlying48
  a75 := Tryd.isAgg48
  z75 := Tryd.sizeOf48
  v75 := Tryd.zeroValue48
  t76 := Tryd.underlying49
  a76 := Tryd.isAgg49
  z76 := Tryd.sizeOf49
  v76 := Tryd.zeroValue49
  t85 := Tryd.underlying69
  a85 := Tryd.isAgg69
  z85 := Tryd.sizeOf69
  v85 := Tryd.zeroValue69
  t127 := Tryd.underlying98
  a127 := Tryd.isAgg98
  z127 := Tryd.sizeOf98
  v127 := Tryd.zeroValue98
  t143 := Tryd.underlying99
  a143 := Tryd.isAgg99
  z143 := Tryd.sizeOf99
  v143 := Tryd.zeroValue99
  t145 := Tryd.underlying101
  a145 := Tryd.isAgg101
  z145 := Tryd.sizeOf101
  v145 := Tryd.zeroValue101
  t167 := Tryd.underlying68
  a167 := Tryd.isAgg68
  z167 := Tryd.sizeOf68
  v167 := Tryd.zeroValue68
  t168 := Tryd.underlying71
  a168 := Tryd.isAgg71
  z168 := Tryd.sizeOf71
  v168 := Tryd.zeroValue71
  t171 := Tryd.underlying74
  a171 := Tryd.isAgg74
  z171 := Tryd.sizeOf74
  v171 := Tryd.zeroValue74
  t173 := Tryd.underlying78
  a173 := Tryd.isAgg78
  z173 := Tryd.sizeOf78
  v173 := Tryd.zeroValue78
  t175 := Tryd.underlying83
  a175 := Tryd.isAgg83
  z175 := Tryd.sizeOf83
  v175 := Tryd.zeroValue83
  t210 := Tryd.underlying87
  a210 := Tryd.isAgg87
  z210 := Tryd.sizeOf87
  v210 := Tryd.zeroValue87
  t212 := Tryd.underlying90
  a212 := Tryd.isAgg90
  z212 := Tryd.sizeOf90
  v212 := Tryd.zeroValue90
  t213 := Tryd.underlying92
  a213 := Tryd.isAgg92
  z213 := Tryd.sizeOf92
  t232 := Tryd.underlying107
  a232 := Tryd.isAgg107
  z232 := Tryd.sizeOf107
  v232 := Tryd.zeroValue107
  t233 := Tryd.underlying108
  a233 := Tryd.isAgg108
  z233 := Tryd.sizeOf108
  v233 := Tryd.zeroValue108
  g15 := by kernel_rfl
  g16 := by kernel_rfl
  g17 := by kernel_rfl
  g18 := by kernel_rfl
  g19 := by kernel_rfl
  t80 := Tryd.underlying109
  a80 := Tryd.isAgg109
  z80 := Tryd.sizeOf109
  v80 := Tryd.zeroValue109
  i0 := by kernel_rfl
  i2 := by kernel_rfl
  i3 := by kernel_rfl
  i4 := by kernel_rfl
  i5 := by kernel_rfl
  i9 := by kernel_rfl
  i20 := by kernel_rfl
  i21 := by kernel_rfl
  i37 := by kernel_rfl
  i46 := by kernel_rfl
  i51 := by kernel_rfl
  i53 := by kernel_rfl
  i75 := by kernel_rfl
  i76 := by kernel_rfl
  i80 := by kernel_rfl
  i85 := by kernel_rfl
  i127 := by kernel_rfl
  i143 := by kernel_rfl
  i145 := by kernel_rfl
  i167 := by kernel_rfl
  i168 := by kernel_rfl
  i171 := by kernel_rfl
  i173 := by kernel_rfl
  i175 := by kernel_rfl
  i210 := by kernel_rfl
  i212 := by kernel_rfl
  i232 := by kernel_rfl
  i233 := by kernel_rfl
  m15 := by kernel_rfl
  m16 := by kernel_rfl
  m17 := by kernel_rfl
  m18 := by kernel_rfl
  m19 := by kernel_rfl
  c0 := by kernel_rfl
  c2 := by kernel_rfl
  c3 := by kernel_rfl
  c4 := by kernel_rfl
  c5 := by kernel_rfl
  c9 := by kernel_rfl
  c20 := by kernel_rfl
  c21 := by kernel_rfl
  c37 := by kernel_rfl
  c46 := by kernel_rfl
  c51 := by kernel_rfl
  c53 := by kernel_rfl
  c75 := by kernel_rfl
  c76 := by kernel_rfl
  c80 := by kernel_rfl
  c85 := by kernel_rfl
  c127 := by kernel_rfl
  c143 := by kernel_rfl
  c145 := by kernel_rfl
  c167 := by kernel_rfl
  c168 := by kernel_rfl
  c171 := by kernel_rfl
  c173 := by kernel_rfl
  c175 := by kernel_rfl
  c210 := by kernel_rfl
  c212 := by kernel_rfl
  c213 := by kernel_rfl
  c232 := by kernel_rfl
  c233 := by kernel_rfl }
open Go.RowKit in
theorem Tryd.strconv_Atoi_ok (s : ByteArray) (hmax : s.size ≤ 9223372036854775806) (v : Int) (h : Lib.atoiAll s.data.toList = .ok v) (w : World) :
    Calls Tryd.prog 35 #[.string s] w fun e w' => e = .returned (.tuple #[.int .i64 v, .nilIface]) ∧ (w' = w ∨ ∃ t, w' = Lib.bytesWorld w 5 t) := Any.strconv_Atoi_ok Tryd.laysC172 s hmax v h w
def Tryd.lays145_ren : Go.Shelf.Ren := ⟨fun | 145 => 33 | 220 => 46 | 219 => 55 | 217 => 68 | 225 => 69 | 224 => 70 | 267 => 71 | 266 => 83 | 314 => 84 | n => n, fun | 9 => 9 | 4 => 4 | 59 => 45 | 3 => 3 | 5 => 5 | 46 => 82 | 146 => 95 | 51 => 91 | n => n, fun | 1 => 0 | n => n⟩
theorem Tryd.lays145 : Go.Proofs.Lays.n145 Tryd.prog Tryd.lays145_ren := {
  mixed := by kernel_rfl
  f145 := Tryd.func33.trans (congrArg some (by kernel_rfl))
  f217 := Tryd.func68.trans (congrArg some (by kernel_rfl))
  f219 := Tryd.func55.trans (congrArg some (by kernel_rfl))
  f220 := Tryd.func46.trans (congrArg some (by kernel_rfl))
  f224 := Tryd.func70.trans (congrArg some (by kernel_rfl))
  f225 := Tryd.func69.trans (congrArg some (by kernel_rfl))
  f266 := Tryd.func83.trans (congrArg some (by kernel_rfl))
  f267 := Tryd.func71.trans (congrArg some (by kernel_rfl))
  f314 := Tryd.func84.trans (congrArg some (by kernel_rfl))
  t3 := Tryd.underlying3
  a3 := Tryd.isAgg3
  z3 := Tryd.sizeOf3
  v3 := Tryd.zeroValue3
  t4 := Tryd.underlying4
  a4 := Tryd.isAgg4
  z4 := Tryd.sizeOf4
  v4 := Tryd.zeroValue4
  t5 := Tryd.underlying5
  a5 := Tryd.isAgg5
  z5 := Tryd.sizeOf5
  v5 := Tryd.zeroValue5
  t9 := Tryd.underlying9
  a9 := Tryd.isAgg9
  z9 := Tryd.sizeOf9
  v9 := Tryd.zeroValue9
  t46 := Tryd.underlying82
  a46 := Tryd.isAgg82
  z46 := Tryd.sizeOf82
  v46 := Tryd.zeroValue82
  t51 := Tryd.underlying91
  a51 := Tryd.isAgg91
  z51 := Tryd.sizeOf91
  v51 := Tryd.zeroValue91
  t59 := Tryd.underlying45
  a59 := Tryd.isAgg45
  z59 := Tryd.sizeOf45
  v59 := Tryd.zeroValue45
  t146 := Tryd.underlying95
  a146 := Tryd.isAgg95
  z146 := Tryd.sizeOf95
  v146 := Tryd.zeroValue95
  g1 := by kernel_rfl }
open Go.RowKit Go.Lib in
theorem Tryd.strings_Cut (s sep : ByteArray) (m : Int) (w : World) (hs : s.size < 4294967281) (hm : w.cell? ⟨0, 0, none⟩ = some (.int .i64 m)) :
    Calls Tryd.prog 33 #[.string s, .string sep] w fun e w' => e = .returned (.tuple #[.string ⟨(Lib.cut s.data.toList sep.data.toList).1.toArray⟩, .string ⟨(Lib.cut s.data.toList sep.data.toList).2.1.toArray⟩, .bool (Lib.cut s.data.toList sep.data.toList).2.2]) ∧ ∃ n, w' = w.drewN n := Any.strings_Cut Tryd.lays145 s sep m w hs hm
end Go.Proofs
