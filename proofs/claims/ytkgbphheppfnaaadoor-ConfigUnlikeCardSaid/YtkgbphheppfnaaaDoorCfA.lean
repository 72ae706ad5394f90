/- Layer 17: numbers, ports, what is amiss, lines and texts, by the program and by the document. The conditions stand in the specifications. -/
import Derived.Test.YtkgbphheppfnaaaDoorRxB
import Derived.Shelf.Strconv.Itoa3
import Derived.Shelf.Strings.Split
import Derived.Test.YtkgbphheppfnaaaDoorChecked
import Derived.Shelf.Strconv.AtoiAll
import Derived.Below
import Derived.Lib.ItoaLen
set_option linter.unusedSimpArgs false
set_option linter.unusedVariables false
set_option linter.unnecessarySimpa false
set_option linter.unusedSectionVars false
set_option maxRecDepth 100000
set_option linter.unusedSimpArgs false
set_option linter.unusedVariables false
namespace Go.Proofs.YtkgbphheppfnaaaDoor
open Go.Shelf
def laysItoa_ren : Go.Shelf.Ren := ⟨fun | 171 => 41 | 243 => 47 | 246 => 54 | 283 => 62 | 284 => 63 | 285 => 64 | 286 => 65 | 129 => 75 | 317 => 74 | 318 => 76 | 319 => 77 | 320 => 78 | 337 => 87 | 338 => 88 | n => n, fun | 3 => 3 | 9 => 9 | 2 => 2 | 4 => 4 | 171 => 99 | 0 => 0 | 53 => 100 | 37 => 73 | 5 => 5 | 173 => 103 | 212 => 108 | 51 => 109 | 20 => 20 | 213 => 110 | 46 => 74 | 232 => 133 | 233 => 134 | n => n, fun | 17 => 1 | 18 => 6 | 19 => 7 | n => n⟩
theorem laysItoa : Go.Proofs.LaysM.n171 Tryd.prog laysItoa_ren := {
  mixed := by kernel_rfl
  f129 := Tryd.func75.trans (congrArg some (by kernel_rfl))
  f171 := Tryd.func41.trans (congrArg some (by kernel_rfl))
  f243 := Tryd.func47.trans (congrArg some (by kernel_rfl))
  f246 := Tryd.func54.trans (congrArg some (by kernel_rfl))
  f283 := Tryd.func62.trans (congrArg some (by kernel_rfl))
  f284 := Tryd.func63.trans (congrArg some (by kernel_rfl))
  f285 := Tryd.func64.trans (congrArg some (by kernel_rfl))
  f286 := Tryd.func65.trans (congrArg some (by kernel_rfl))
  f317 := Tryd.func74.trans (congrArg some (by kernel_rfl))
  f318 := Tryd.func76.trans (congrArg some (by kernel_rfl))
  f319 := Tryd.func77.trans (congrArg some (by kernel_rfl))
  f320 := Tryd.func78.trans (congrArg some (by kernel_rfl))
  f337 := Tryd.func87.trans (congrArg some (by kernel_rfl))
  f338 := Tryd.func88.trans (congrArg some (by kernel_rfl))
  t0 := Tryd.underlying0
  a0 := Tryd.isAgg0
  z0 := Tryd.sizeOf0
  v0 := Tryd.zeroValue0
  t2 := Tryd.underlying2
  a2 := Tryd.isAgg2
  z2 := Tryd.sizeOf2
  v2 := Tryd.zeroValue2
  t3 := Tryd.underlying3
  a3 := Tryd.isAgg3
  z3 := Tryd.sizeOf3
  v3 := Tryd.zeroValue3
  t4 := Tryd.underlying4
  a4 := Tryd.isAgg4
  z4 := Tryd.sizeOf4
  v4 := Tryd.zeroValue4
  t5 := Tryd.underlying5
  a5 := Tryd.isAgg5
  z5 := Tryd.sizeOf5
  v5 := Tryd.zeroValue5
  t9 := Tryd.underlying9
  a9 := Tryd.isAgg9
  z9 := Tryd.sizeOf9
  v9 := Tryd.zeroValue9
  t20 := Tryd.underlying20
  a20 := Tryd.isAgg20
  z20 := Tryd.sizeOf20
  v20 := Tryd.zeroValue20
  t37 := Tryd.underlying73
  a37 := Tryd.isAgg73
  z37 := Tryd.sizeOf73
  v37 := Tryd.zeroValue73
  t46 := Tryd.underlying74
  a46 := Tryd.isAgg74
  z46 := Tryd.sizeOf74
  v46 := Tryd.zeroValue74
  t51 := Tryd.underlying109
  a51 := Tryd.isAgg109
  z51 := Tryd.sizeOf109
  v51 := Tryd.zeroValue109
  t53 := Tryd.underlying100
  a53 := Tryd.isAgg100
  z53 := Tryd.sizeOf100
  v53 := Tryd.zeroValue100
  t171 := Tryd.underlying99
  a171 := Tryd.isAgg99
  z171 := Tryd.sizeOf99
  v171 := Tryd.zeroValue99
  t173 := Tryd.underlying103
  a173 := Tryd.isAgg103
  z173 := Tryd.sizeOf103
  v173 := Tryd.zeroValue103
  t212 := Tryd.underlying108
  a212 := Tryd.isAgg108
  z212 := Tryd.sizeOf108
  v212 := Tryd.zeroValue108
  t213 := Tryd.underlying110
  a213 := Tryd.isAgg110
  z213 := Tryd.sizeOf110
  t232 := Tryd.underlying133
  a232 := Tryd.isAgg133
  z232 := Tryd.sizeOf133
  v232 := Tryd.zeroValue133
  t233 := Tryd.underlying134
  a233 := Tryd.isAgg134
  z233 := Tryd.sizeOf134
  v233 := Tryd.zeroValue134
  g17 := by kernel_rfl
  g18 := by kernel_rfl
  g19 := by kernel_rfl
  i0 := by kernel_rfl
  i2 := by kernel_rfl
  i3 := by kernel_rfl
  i4 := by kernel_rfl
  i5 := by kernel_rfl
  i9 := by kernel_rfl
  i20 := by kernel_rfl
  i37 := by kernel_rfl
  i46 := by kernel_rfl
  i51 := by kernel_rfl
  i53 := by kernel_rfl
  i171 := by kernel_rfl
  i173 := by kernel_rfl
  i212 := by kernel_rfl
  i232 := by kernel_rfl
  i233 := by kernel_rfl
  m17 := by kernel_rfl
  m18 := by kernel_rfl
  m19 := by kernel_rfl }
open Go.RowKit Go.Sort Go.Lib in
/-- strconv.Itoa: "Itoa is equivalent to FormatInt(int64(i), 10).": i's DECIMAL NUMERAL ('Lib.itoa': a '-' where i is negative, then the digits), FOR EVERY int. The world behind the call: the world before it, new blocks behind the heap (the library's 'var a [24]byte'), draws. (LAID: no walk: one application.) -/
theorem itoa_calls (n : Int) (h0 : -9223372036854775808 ≤ n) (h1 : n ≤ 9223372036854775807) (w : World) (htab : Lib.TabIs Tryd.prog w "internal/strconv.uint64pow10" .u64 Lib.pow10Tab) :
    Calls Tryd.prog 41 #[.int .i64 n] w fun e w' => e = .returned (.string ⟨(Lib.itoa n).toArray⟩) ∧ ∃ k os, w' = grow (w.drewN k) os := Any.strconv_Itoa laysItoa n h0 h1 w htab
def laysSplit_ren : Go.Shelf.Ren := ⟨fun | 146 => 36 | 221 => 44 | 268 => 48 | 138 => 49 | 143 => 50 | 195 => 55 | 197 => 56 | 218 => 57 | 219 => 58 | 260 => 66 | 217 => 67 | 225 => 68 | 224 => 69 | 267 => 70 | 266 => 79 | 314 => 80 | n => n, fun | 9 => 9 | 31 => 64 | 3 => 3 | 4 => 4 | 0 => 0 | 105 => 90 | 21 => 21 | 5 => 5 | 46 => 74 | 119 => 113 | 139 => 116 | 138 => 115 | 146 => 117 | 51 => 109 | n => n, fun | 1 => 0 | 3 => 2 | 4 => 3 | n => n⟩
theorem laysSplit : Go.Proofs.Lays.n146 Tryd.prog laysSplit_ren := {
  mixed := by kernel_rfl
  f138 := Tryd.func49.trans (congrArg some (by kernel_rfl))
  f143 := Tryd.func50.trans (congrArg some (by kernel_rfl))
  f146 := Tryd.func36.trans (congrArg some (by kernel_rfl))
  f195 := Tryd.func55.trans (congrArg some (by kernel_rfl))
  f197 := Tryd.func56.trans (congrArg some (by kernel_rfl))
  f217 := Tryd.func67.trans (congrArg some (by kernel_rfl))
  f218 := Tryd.func57.trans (congrArg some (by kernel_rfl))
  f219 := Tryd.func58.trans (congrArg some (by kernel_rfl))
  f221 := Tryd.func44.trans (congrArg some (by kernel_rfl))
  f224 := Tryd.func69.trans (congrArg some (by kernel_rfl))
  f225 := Tryd.func68.trans (congrArg some (by kernel_rfl))
  f260 := Tryd.func66.trans (congrArg some (by kernel_rfl))
  f266 := Tryd.func79.trans (congrArg some (by kernel_rfl))
  f267 := Tryd.func70.trans (congrArg some (by kernel_rfl))
  f268 := Tryd.func48.trans (congrArg some (by kernel_rfl))
  f314 := Tryd.func80.trans (congrArg some (by kernel_rfl))
  t0 := Tryd.underlying0
  a0 := Tryd.isAgg0
  z0 := Tryd.sizeOf0
  v0 := Tryd.zeroValue0
  t3 := Tryd.underlying3
  a3 := Tryd.isAgg3
  z3 := Tryd.sizeOf3
  v3 := Tryd.zeroValue3
  t4 := Tryd.underlying4
  a4 := Tryd.isAgg4
  z4 := Tryd.sizeOf4
  v4 := Tryd.zeroValue4
  t5 := Tryd.underlying5
  a5 := Tryd.isAgg5
  z5 := Tryd.sizeOf5
  v5 := Tryd.zeroValue5
  t9 := Tryd.underlying9
  a9 := Tryd.isAgg9
  z9 := Tryd.sizeOf9
  v9 := Tryd.zeroValue9
  t21 := Tryd.underlying21
  a21 := Tryd.isAgg21
  z21 := Tryd.sizeOf21
  v21 := Tryd.zeroValue21
  t31 := Tryd.underlying64
  a31 := Tryd.isAgg64
  z31 := Tryd.sizeOf64
  v31 := Tryd.zeroValue64
  t46 := Tryd.underlying74
  a46 := Tryd.isAgg74
  z46 := Tryd.sizeOf74
  v46 := Tryd.zeroValue74
  t51 := Tryd.underlying109
  a51 := Tryd.isAgg109
  z51 := Tryd.sizeOf109
  v51 := Tryd.zeroValue109
  t105 := Tryd.underlying90
  a105 := Tryd.isAgg90
  z105 := Tryd.sizeOf90
  v105 := Tryd.zeroValue90
  t119 := Tryd.underlying113
  a119 := Tryd.isAgg113
  z119 := Tryd.sizeOf113
  t138 := Tryd.underlying115
  a138 := Tryd.isAgg115
  z138 := Tryd.sizeOf115
  v138 := Tryd.zeroValue115
  t139 := Tryd.underlying116
  a139 := Tryd.isAgg116
  z139 := Tryd.sizeOf116
  v139 := Tryd.zeroValue116
  t146 := Tryd.underlying117
  a146 := Tryd.isAgg117
  z146 := Tryd.sizeOf117
  v146 := Tryd.zeroValue117
  g1 := by kernel_rfl
  g3 := by kernel_rfl
  g4 := by kernel_rfl }
open Go.RowKit Go.Lib in
/-- strings.Split. (LAID: no walk: one application.) -/
theorem split_calls (s sep : ByteArray) (m : Int) (w : World) (hs : s.size < 4294967281) (hm : w.cell? ⟨0, 0, none⟩ = some (.int .i64 m)) (h1 : 1 ≤ sep.size) :
    Calls Tryd.prog 36 #[.string s, .string sep] w fun e w' =>
      e = .returned (.slice (some ⟨w.heap.size, 0, none⟩) (Lib.countB s sep + 1) (Lib.countB s sep + 1)) ∧ w' = w.alloc (.cells ((Lib.splitB sep 0 (Lib.countB s sep) s).map Value.string).toArray 9) := Any.strings_Split laysSplit (by kernel_rfl) s sep m w hs hm h1
end Go.Proofs.YtkgbphheppfnaaaDoor

set_option maxRecDepth 100000
set_option linter.unusedSimpArgs false
set_option linter.unusedVariables false
namespace Go.Proofs.YtkgbphheppfnaaaDoor
open Go.Shelf
def laysAtoi_ren : Go.Shelf.Ren := ⟨fun | 172 => 59 | 244 => 71 | 245 => 72 | 247 => 81 | 279 => 82 | 280 => 83 | 281 => 84 | 282 => 85 | 287 => 89 | 316 => 90 | 171 => 41 | 205 => 91 | 321 => 92 | 322 => 93 | 243 => 47 | 246 => 54 | 283 => 62 | 284 => 63 | 285 => 64 | 286 => 65 | 129 => 75 | 317 => 74 | 318 => 76 | 319 => 77 | 320 => 78 | 337 => 87 | 338 => 88 | n => n, fun | 9 => 9 | 3 => 3 | 75 => 94 | 76 => 95 | 4 => 4 | 5 => 5 | 167 => 119 | 37 => 73 | 0 => 0 | 85 => 120 | 2 => 2 | 168 => 122 | 53 => 100 | 175 => 127 | 46 => 74 | 210 => 131 | 127 => 137 | 145 => 140 | 143 => 138 | 21 => 21 | 171 => 99 | 173 => 103 | 212 => 108 | 51 => 109 | 20 => 20 | 213 => 110 | 232 => 133 | 233 => 134 | 80 => 44 | n => n, fun | 15 => 4 | 16 => 5 | 17 => 1 | 18 => 6 | 19 => 7 | n => n⟩
theorem laysAtoi : Go.Proofs.LaysC.n172 Tryd.prog laysAtoi_ren := {
  mixed := by kernel_rfl
  f129 := Tryd.func75.trans (congrArg some (by kernel_rfl))
  f171 := Tryd.func41.trans (congrArg some (by kernel_rfl))
  f172 := Tryd.func59.trans (congrArg some (by kernel_rfl))
  f205 := Tryd.func91.trans (congrArg some (by kernel_rfl))
  f243 := Tryd.func47.trans (congrArg some (by kernel_rfl))
  f244 := Tryd.func71.trans (congrArg some (by kernel_rfl))
  f245 := Tryd.func72.trans (congrArg some (by kernel_rfl))
  f246 := Tryd.func54.trans (congrArg some (by kernel_rfl))
  f247 := Tryd.func81.trans (congrArg some (by kernel_rfl))
  f279 := Tryd.func82.trans (congrArg some (by kernel_rfl))
  f280 := Tryd.func83.trans (congrArg some (by kernel_rfl))
  f281 := Tryd.func84.trans (congrArg some (by kernel_rfl))
  f282 := Tryd.func85.trans (congrArg some (by kernel_rfl))
  f283 := Tryd.func62.trans (congrArg some (by kernel_rfl))
  f284 := Tryd.func63.trans (congrArg some (by kernel_rfl))
  f285 := Tryd.func64.trans (congrArg some (by kernel_rfl))
  f286 := Tryd.func65.trans (congrArg some (by kernel_rfl))
  f287 := Tryd.func89.trans (congrArg some (by kernel_rfl))
  f316 := Tryd.func90.trans (congrArg some (by kernel_rfl))
  f317 := Tryd.func74.trans (congrArg some (by kernel_rfl))
  f318 := Tryd.func76.trans (congrArg some (by kernel_rfl))
  f319 := Tryd.func77.trans (congrArg some (by kernel_rfl))
  f320 := Tryd.func78.trans (congrArg some (by kernel_rfl))
  f321 := Tryd.func92.trans (congrArg some (by kernel_rfl))
  f322 := Tryd.func93.trans (congrArg some (by kernel_rfl))
  f337 := Tryd.func87.trans (congrArg some (by kernel_rfl))
  f338 := Tryd.func88.trans (congrArg some (by kernel_rfl))
  t0 := Tryd.underlying0
  a0 := Tryd.isAgg0
  z0 := Tryd.sizeOf0
  v0 := Tryd.zeroValue0
  t2 := Tryd.underlying2
  a2 := Tryd.isAgg2
  z2 := Tryd.sizeOf2
  v2 := Tryd.zeroValue2
  t3 := Tryd.underlying3
  a3 := Tryd.isAgg3
  z3 := Tryd.sizeOf3
  v3 := Tryd.zeroValue3
  t4 := Tryd.underlying4
  a4 := Tryd.isAgg4
  z4 := Tryd.sizeOf4
  v4 := Tryd.zeroValue4
  t5 := Tryd.underlying5
  a5 := Tryd.isAgg5
  z5 := Tryd.sizeOf5
  v5 := Tryd.zeroValue5
  t9 := Tryd.underlying9
  a9 := Tryd.isAgg9
  z9 := Tryd.sizeOf9
  v9 := Tryd.zeroValue9
  t20 := Tryd.underlying20
  a20 := Tryd.isAgg20
  z20 := Tryd.sizeOf20
  v20 := Tryd.zeroValue20
  t21 := Tryd.underlying21
  a21 := Tryd.isAgg21
  z21 := Tryd.sizeOf21
  v21 := Tryd.zeroValue21
  t37 := Tryd.underlying73
  a37 := Tryd.isAgg73
  z37 := Tryd.sizeOf73
  v37 := Tryd.zeroValue73
  t46 := Tryd.underlying74
  a46 := Tryd.isAgg74
  z46 := Tryd.sizeOf74
  v46 := Tryd.zeroValue74
  t51 := Tryd.underlying109
  a51 := Tryd.isAgg109
  z51 := Tryd.sizeOf109
  v51 := Tryd.zeroValue109
  t53 := Tryd.underlying100
  a53 := Tryd.isAgg100
  z53 := Tryd.sizeOf100
  v53 := Tryd.zeroValue100
  t75 := Tryd.underlying94
  a75 := Tryd.isAgg94
  z75 := Tryd.sizeOf94
  v75 := Tryd.zeroValue94
  t76 := Tryd.underlying95
  a76 := Tryd.isAgg95
  z76 := Tryd.sizeOf95
  v76 := Tryd.zeroValue95
  t85 := Tryd.underlying120
  a85 := Tryd.isAgg120
  z85 := Tryd.sizeOf120
  v85 := Tryd.zeroValue120
  t127 := Tryd.underlying137
  a127 := Tryd.isAgg137
  z127 := Tryd.sizeOf137
  v127 := Tryd.zeroValue137
  t143 := Tryd.underlying138
  a143 := Tryd.isAgg138
  z143 := Tryd.sizeOf138
  v143 := Tryd.zeroValue138
  t145 := Tryd.underlying140
  a145 := Tryd.isAgg140
  z145 := Tryd.sizeOf140
  v145 := Tryd.zeroValue140
  t167 := Tryd.underlying119
  a167 := Tryd.isAgg119
  z167 := Tryd.sizeOf119
  v167 := Tryd.zeroValue119
  t168 := Tryd.underlying122
  a168 := Tryd.isAgg122
  z168 := Tryd.sizeOf122
  v168 := Tryd.zeroValue122
  t171 := Tryd.underlying99
  a171 := Tryd.isAgg99
  z171 := Tryd.sizeOf99
  v171 := Tryd.zeroValue99
  t173 := Tryd.underlying103
  a173 := Tryd.isAgg103
  z173 := Tryd.sizeOf103
  v173 := Tryd.zeroValue103
  t175 := Tryd.underlying127
  a175 := Tryd.isAgg127
  z175 := Tryd.sizeOf127
  v175 := Tryd.zeroValue127
  t210 := Tryd.underlying131
  a210 := Tryd.isAgg131
  z210 := Tryd.sizeOf131
  v210 := Tryd.zeroValue131
  t212 := Tryd.underlying108
  a212 := Tryd.isAgg108
  z212 := Tryd.sizeOf108
  v212 := Tryd.zeroValue108
  t213 := Tryd.underlying110
  a213 := Tryd.isAgg110
  z213 := Tryd.sizeOf110
  t232 := Tryd.underlying133
  a232 := Tryd.isAgg133
  z232 := Tryd.sizeOf133
  v232 := Tryd.zeroValue133
  t233 := Tryd.underlying134
  a233 := Tryd.isAgg134
  z233 := Tryd.sizeOf134
  v233 := Tryd.zeroValue134
  g15 := by kernel_rfl
  g16 := by kernel_rfl
  g17 := by kernel_rfl
  g18 := by kernel_rfl
  g19 := by kernel_rfl
  t80 := Tryd.underlying44
  a80 := Tryd.isAgg44
  z80 := Tryd.sizeOf44
  v80 := Tryd.zeroValue44
  i0 := by kernel_rfl
  i2 := by kernel_rfl
  i3 := by kernel_rfl
  i4 := by kernel_rfl
  i5 := by kernel_rfl
  i9 := by kernel_rfl
  i20 := by kernel_rfl
  i21 := by kernel_rfl
  i37 := by kernel_rfl
  i46 := by kernel_rfl
  i51 := by kernel_rfl
  i53 := by kernel_rfl
  i75 := by kernel_rfl
  i76 := by kernel_rfl
  i80 := by kernel_rfl
  i85 := by kernel_rfl
  i127 := by kernel_rfl
  i143 := by kernel_rfl
  i145 := by kernel_rfl
  i167 := by kernel_rfl
  i168 := by kernel_rfl
  i171 := by kernel_rfl
  i173 := by kernel_rfl
  i175 := by kernel_rfl
  i210 := by kernel_rfl
  i212 := by kernel_rfl
  i232 := by kernel_rfl
  i233 := by kernel_rfl
  m15 := by kernel_rfl
  m16 := by kernel_rfl
  m17 := by kernel_rfl
  m18 := by kernel_rfl
  m19 := by kernel_rfl
  c0 := by kernel_rfl
  c2 := by kernel_rfl
  c3 := by kernel_rfl
  c4 := by kernel_rfl
  c5 := by kernel_rfl
  c9 := by kernel_rfl
  c20 := by kernel_rfl
  c21 := by kernel_rfl
  c37 := by kernel_rfl
  c46 := by kernel_rfl
  c51 := by kernel_rfl
  c53 := by kernel_rfl
  c75 := by kernel_rfl
  c76 := by kernel_rfl
  c80 := by kernel_rfl
  c85 := by kernel_rfl
  c127 := by kernel_rfl
  c143 := by kernel_rfl
  c145 := by kernel_rfl
  c167 := by kernel_rfl
  c168 := by kernel_rfl
  c171 := by kernel_rfl
  c173 := by kernel_rfl
  c175 := by kernel_rfl
  c210 := by kernel_rfl
  c212 := by kernel_rfl
  c213 := by kernel_rfl
  c232 := by kernel_rfl
  c233 := by kernel_rfl }
open Go.RowKit in
theorem atoi_ok (s : ByteArray) (hmax : s.size ≤ 9223372036854775806) (v : Int) (h : Lib.atoiAll s.data.toList = .ok v) (w : World) :
    Calls Tryd.prog 59 #[.string s] w fun e w' => e = .returned (.tuple #[.int .i64 v, .nilIface]) ∧ (w' = w ∨ ∃ t, w' = Lib.bytesWorld w 5 t) := Any.strconv_Atoi_ok laysAtoi s hmax v h w
open Go.RowKit in
theorem atoi_syntax (s : ByteArray) (hlim : s.size ≤ 281474976710656) (h : Lib.atoiAll s.data.toList = .«syntax») (ev : Value) (w : World) (hv : w.cell? ⟨4, 0, none⟩ = some ev) (hev : ev = .nilIface ∨ ∃ te pe, ev = .iface te pe) :
    Calls Tryd.prog 59 #[.string s] w fun e w' => ∃ N, e = .returned (.tuple #[.int .i64 (0), .iface 122 (.pointer (some ⟨N, 0, none⟩))]) ∧ w.heap.size ≤ N ∧ w'.heap[N]? = some (.cells #[.string ⟨#[65, 116, 111, 105]⟩, .string s, ev] 131 (0, 0)) ∧ Below w.heap.size w w' := Any.strconv_Atoi_syntax laysAtoi s hlim h ev w hv hev
open Go.RowKit in
theorem atoi_range (s : ByteArray) (hlim : s.size ≤ 281474976710656) (h : Lib.atoiAll s.data.toList = .range) (ev : Value) (w : World) (hv : w.cell? ⟨5, 0, none⟩ = some ev) (hev : ev = .nilIface ∨ ∃ te pe, ev = .iface te pe) :
    Calls Tryd.prog 59 #[.string s] w fun e w' => ∃ N, e = .returned (.tuple #[.int .i64 (Lib.atoiSat s.data.toList), .iface 122 (.pointer (some ⟨N, 0, none⟩))]) ∧ w.heap.size ≤ N ∧ w'.heap[N]? = some (.cells #[.string ⟨#[65, 116, 111, 105]⟩, .string s, ev] 131 (0, 0)) ∧ Below w.heap.size w w' := Any.strconv_Atoi_range laysAtoi s hlim h ev w hv hev
end Go.Proofs.YtkgbphheppfnaaaDoor

namespace Go.Proofs.YtkgbphheppfnaaaDoor
open Go.Rx
noncomputable abbrev P : Program := Tryd.prog
theorem hm : P.follows .mixedOrders = true := Tryd.checked.mixed

/-- The table of powers of ten is the second variable; the first one is a number. -/
def powers (h : Nat → Option Obj) : Prop := (match h 1 with | some (.cells cs _ _) => some cs | _ => none) = some (Lib.pow10Tab.map fun z => Value.int .u64 z).toArray
def maxLen (h : Nat → Option Obj) : Prop := ∃ m, (match h 0 with | some (.cells cs _ _) => cs[0]? | _ => none) = some (.int .i64 m)
/-- The two errors are errors. -/
def errAt (h : Nat → Option Obj) (g : Nat) : Prop := ∃ ev, (match h g with | some (.cells cs _ _) => cs[0]? | _ => none) = some ev ∧ (ev = .nilIface ∨ ∃ te pe, ev = .iface te pe)
noncomputable instance glob : Glob where
  N := 8
  G := fun h => powers h ∧ maxLen h ∧ errAt h 4 ∧ errAt h 5
  loc := by
    intro h h' he hg
    unfold powers maxLen errAt at hg ⊢
    rw [he 1 (by decide), he 0 (by decide), he 4 (by decide), he 5 (by decide)]
    exact hg
theorem tab_of {ρ : Rho} {w : World} (h : WOK ρ w) : Lib.TabIs Tryd.prog w "internal/strconv.uint64pow10" .u64 Lib.pow10Tab := by
  unfold Lib.TabIs World.var?
  rw [show Tryd.prog.globalNamed "internal/strconv.uint64pow10" = some 1 by kernel_rfl]
  exact h.holds.1
theorem max_of {ρ : Rho} {w : World} (h : WOK ρ w) : ∃ m, w.cell? ⟨0, 0, none⟩ = some (.int .i64 m) := by
  obtain ⟨m, hm⟩ := h.holds.2.1
  refine ⟨m, ?_⟩
  unfold World.cell?
  simp only at hm ⊢
  split at hm
  · rename_i hh; rw [hh]; exact hm
  · cases hm

theorem err_cell {w : World} {g : Nat} (h : errAt (fun i => w.heap[i]?) g) : ∃ ev, w.cell? ⟨g, 0, none⟩ = some ev ∧ (ev = .nilIface ∨ ∃ te pe, ev = .iface te pe) := by
  obtain ⟨ev, hm, he⟩ := h
  refine ⟨ev, ?_, he⟩
  unfold World.cell?
  simp only at hm ⊢
  split at hm
  · rename_i hh; rw [hh]; exact hm
  · cases hm

/-- The decimal numeral. -/
def itoaS (n : Int) : ByteArray := ⟨(Lib.itoa n).toArray⟩
def itoS : Rx.Spec := fun a b => match a, b with
  | [.int .i64 n], [] => .need (decide (-9223372036854775808 ≤ n) && decide (n ≤ 9223372036854775807)) (.leaf ⟨.str (itoaS n), [], []⟩)
  | _, _ => .fail
theorem ito_ok : SpecOK P 41 itoS := by
  refine ⟨?_, _, Tryd.func41, by kernel_rfl, by kernel_rfl⟩
  intro args bs r hr ρ xs w hx hbs
  unfold itoS at hr
  split at hr
  · rename_i n
    rw [den_need, den_leaf] at hr
    obtain ⟨hn, rfl⟩ := hr
    simp only [Bool.and_eq_true, decide_eq_true_eq] at hn
    simp only [VsRel, VRel] at hx
    obtain ⟨y, ys, hxs, rfl, rfl⟩ := hx
    have hxs : xs = #[.int .i64 n] := by
      apply Array.ext'
      rw [hxs]
    subst hxs
    refine (itoa_calls n hn.1 hn.2 w (tab_of hbs.2.2.2)).mono ?_
    rintro e w' ⟨rfl, k, os, rfl⟩
    refine ⟨_, ρ, rfl, Le.refl _, fun b s hb => ?_, ?_, by simp, by simp, ⟨rfl, rfl, rfl, ?_, fun i hi _ => ?_⟩, fun j s hj => ?_, fun i j s t hi _ _ _ _ => ?_⟩
    · rw [hbs.2.2.1 b (by simp)] at hb; cases hb
    · simp only [VRel]; rfl
    · simp [Go.Sort.grow, World.drewN]
    · show (w.heap ++ os)[i]? = w.heap[i]?
      exact Array.getElem?_append_left hi
    · rw [hbs.2.2.1 _ (by simp)] at hj; cases hj
    · rw [hbs.2.2.1 _ (by simp)] at hi; cases hi
  · simp [den_fail] at hr
/-- What strconv.Atoi makes of a text: is it a number, and which. -/
def atoK (s : ByteArray) : Bool := match Lib.atoiAll s.data.toList with | .ok _ => true | _ => false
def atoV (s : ByteArray) : Int := match Lib.atoiAll s.data.toList with | .ok v => v | .«syntax» => 0 | .range => Lib.atoiSat s.data.toList
def atoS : Rx.Spec := fun a b => match a, b with
  | [.str s], [] => .need (decide (s.size ≤ 281474976710656)) (.ite (atoK s) (.leaf ⟨.tup [.int .i64 (atoV s), .nili], [], []⟩) (.leaf ⟨.tup [.int .i64 (atoV s), .ifc 122 .any], [], []⟩))
  | _, _ => .fail
theorem ato_ok : SpecOK P 59 atoS := by
  refine ⟨?_, _, Tryd.func59, by kernel_rfl, by kernel_rfl⟩
  intro args bs r hr ρ xs w hx hbs
  unfold atoS at hr
  split at hr
  · rename_i s
    rw [den_need] at hr
    obtain ⟨hn, hr⟩ := hr
    simp only [decide_eq_true_eq] at hn
    simp only [VsRel, VRel] at hx
    obtain ⟨y, ys, hxs, rfl, rfl⟩ := hx
    have hxs : xs = #[.string s] := by
      apply Array.ext'
      rw [hxs]
    subst hxs
    have h0 : ∀ b, ρ b = none := fun b => hbs.2.2.1 b (by simp)
    have fin : ∀ (v : V) (x : Value) (w' : World), VRel ρ v x → RowKit.Below w.heap.size w w' → PostR ρ ([] : List Blk).length ⟨v, [], []⟩ x w w' ρ := fun v x w' hv hb =>
      ⟨Le.refl _, fun b s hb => (by rw [h0 b] at hb; cases hb), hv, by simp, by simp, ⟨hb.os, hb.tape, hb.output, hb.size, fun i hi _ => hb.block i hi⟩, fun j s hj => (by rw [h0] at hj; cases hj), fun i j s t hi _ _ _ _ => (by rw [h0] at hi; cases hi)⟩
    have hW := hbs.2.2.2.holds
    cases hk : Lib.atoiAll s.data.toList with
    | ok v =>
      simp only [atoK, atoV, hk, den_ite, den_leaf] at hr
      rcases hr with ⟨_, rfl⟩ | ⟨h, _⟩
      · refine (atoi_ok s (by omega) v hk w).mono ?_
        rintro e w' ⟨rfl, hw⟩
        refine ⟨_, ρ, rfl, fin _ _ _ (by simp [VRel, VsRel]) ?_⟩
        rcases hw with rfl | ⟨t, rfl⟩
        · exact RowKit.Below.refl _ _
        · exact Lib.bytesWorld_below w 5 t
      · cases h
    | «syntax» =>
      simp only [atoK, atoV, hk, den_ite, den_leaf] at hr
      rcases hr with ⟨h, _⟩ | ⟨_, rfl⟩
      · cases h
      · obtain ⟨ev, hv, he⟩ := err_cell hW.2.2.1
        refine (atoi_syntax s hn hk ev w hv he).mono ?_
        rintro e w' ⟨N, rfl, _, _, hb⟩
        exact ⟨_, ρ, rfl, fin _ _ _ (by simp only [VRel, VsRel]; exact ⟨_, rfl, _, _, rfl, rfl, _, _, rfl, ⟨_, rfl, trivial⟩, rfl⟩) hb⟩
    | range =>
      simp only [atoK, atoV, hk, den_ite, den_leaf] at hr
      rcases hr with ⟨h, _⟩ | ⟨_, rfl⟩
      · cases h
      · obtain ⟨ev, hv, he⟩ := err_cell hW.2.2.2
        refine (atoi_range s hn hk ev w hv he).mono ?_
        rintro e w' ⟨N, rfl, _, _, hb⟩
        exact ⟨_, ρ, rfl, fin _ _ _ (by simp only [VRel, VsRel]; exact ⟨_, rfl, _, _, rfl, rfl, _, _, rfl, ⟨_, rfl, trivial⟩, rfl⟩) hb⟩
  · simp [den_fail] at hr
/-- The parts of a text. -/
def parts (s sep : ByteArray) : List ByteArray := Lib.splitB sep 0 (Lib.countB s sep) s
def splS : Rx.Spec := fun a b => match a, b with
  | [.str s, .str sep], [] => .need (decide (s.size < 4294967281) && decide (1 ≤ sep.size) && decide ((parts s sep).length = Lib.countB s sep + 1)) (.leaf ⟨.sl 0 0 0 1 (Lib.countB s sep + 1) none, [], [.rows [.str] ((parts s sep).map fun p => [.str p])]⟩)
  | _, _ => .fail
theorem flat_strs (l : List ByteArray) : flat (.rows [.str] (l.map fun p => [V.str p])) = l.map V.str := by
  simp only [flat]
  induction l with
  | nil => rfl
  | cons p l ih => simp only [List.map_cons, List.flatMap_cons, ih]; rfl
theorem spl_ok : SpecOK P 36 splS := by
  refine ⟨?_, _, Tryd.func36, by kernel_rfl, by kernel_rfl⟩
  intro args bs r hr ρ xs w hx hbs
  unfold splS at hr
  split at hr
  · rename_i s sep
    rw [den_need, den_leaf] at hr
    obtain ⟨hn, rfl⟩ := hr
    simp only [Bool.and_eq_true, decide_eq_true_eq] at hn
    obtain ⟨⟨h1, h2⟩, h3⟩ := hn
    simp only [VsRel, VRel] at hx
    obtain ⟨y, ys, hxs, rfl, z, zs, rfl, rfl, rfl⟩ := hx
    have hxs : xs = #[.string s, .string sep] := by
      apply Array.ext'
      rw [hxs]
    subst hxs
    obtain ⟨m, hm⟩ := max_of hbs.2.2.2
    have h0 : ∀ b, ρ b = none := fun b => hbs.2.2.1 b (by simp)
    refine (split_calls s sep m w h1 hm h2).mono ?_
    rintro e w' ⟨rfl, rfl⟩
    have hheap : (w.alloc (.cells ((Lib.splitB sep 0 (Lib.countB s sep) s).map Value.string).toArray 9)).heap = w.heap.push (.cells ((Lib.splitB sep 0 (Lib.countB s sep) s).map Value.string).toArray 9) := rfl
    refine ⟨_, fun b => if b = 0 then some ⟨w.heap.size, 0, Lib.countB s sep + 1, false⟩ else none, rfl, fun b s hb => ?_, ?_, ?_, by simp, ?_, ⟨rfl, rfl, rfl, ?_, fun i hi _ => ?_⟩, fun j s hj => ?_, fun i j s t hi hj _ _ _ => ?_⟩
    · rw [h0 b] at hb; cases hb
    · intro b s hb
      by_cases hz : b = 0
      · subst hz; simp
      · simp [hz] at hb
    · simp only [VRel]
      exact ⟨_, _, _, rfl, rfl, Nat.le_refl _, by simp, fun _ => ⟨by simp, by simp⟩⟩
    · intro j bl hj
      cases j with
      | succ j => simp at hj
      | zero =>
        simp only [List.getElem?_cons_zero, Option.some.injEq] at hj
        subst hj
        refine ⟨_, rfl, ?_, fun _ => ⟨_, _, _, by rw [hheap]; exact Array.getElem?_push_size, ?_, ⟨?_, fun h => by cases h⟩, ?_⟩⟩
        · rw [flat_strs]; simp; omega
        · simp only [List.size_toArray, List.length_map]
          unfold parts at h3; omega
        · intro i hi; simp
        · intro i v hv
          rw [flat_strs, List.getElem?_map] at hv
          obtain ⟨p, hp, rfl⟩ := Option.map_eq_some_iff.1 hv
          refine ⟨.string p, ?_, rfl⟩
          simp only [Nat.zero_add, List.getElem?_toArray, List.getElem?_map]
          unfold parts at hp
          rw [hp]; rfl
    · rw [hheap]; simp
    · rw [hheap, Array.getElem?_push, if_neg (by omega)]
    · simp only [List.length_nil, Nat.zero_add] at hj
      by_cases hz : j = 0
      · subst hz; simp at hj; subst hj; exact .inr (.inl (Nat.le_refl _))
      · simp [hz] at hj
    · simp only [List.length_nil, Nat.zero_add] at hi hj
      by_cases hz : i = 0
      · by_cases hz2 : j = 0
        · omega
        · simp [hz2] at hj
      · simp [hz] at hi
  · simp [den_fail] at hr
end Go.Proofs.YtkgbphheppfnaaaDoor

set_option maxRecDepth 100000
set_option linter.unusedSimpArgs false
set_option linter.unusedVariables false
namespace Go.Proofs.YtkgbphheppfnaaaDoor
open Go.Rx
def zeS : Rx.Spec := fun a b => match a, b with
  | [v], [] => match Ck.of v with
    | some c => .leaf ⟨.bool (Ck.eqB c Ck.zero), [], []⟩
    | none => .fail
  | _, _ => .fail
theorem ze_ok : SpecOK P 18 zeS := by
  refine specOK_fast (GammaOK.nil P) hm (Λ := loopsOf []) Tryd.func18 (by kernel_rfl) (LoopsOK.nil (by kernel_rfl)) ?_
  intro args bs r h
  unfold zeS at h
  split at h
  · split at h
    · rename_i v _ c hc
      rw [Ck.of_eq hc]
      rw [denLf] at h; cases h
      rw [show (fFn P (specsOf []) (loopsOf []) Tryd.f18 [c.v] []).denN = Tree.denN (Tree.leaf { v := V.bool (Ck.eqB c Ck.zero), upd := [], new := [] }) from by kernel_rfl]
      rfl
    · simp [den_fail] at h
  · simp [den_fail] at h
def inB (n a b : Int) : Bool := decide (n ≥ a) && decide (n ≤ b)
def wiS : Rx.Spec := fun a b => match a, b with
  | [.int .i64 n, .int .i64 x, .int .i64 y], [] => .leaf ⟨.bool (inB n x y), [], []⟩
  | _, _ => .fail
theorem wi_ok : SpecOK P 20 wiS := by
  refine specOK_fast (GammaOK.nil P) hm (Λ := loopsOf []) Tryd.func20 (by kernel_rfl) (LoopsOK.nil (by kernel_rfl)) ?_
  intro args bs r h
  unfold wiS at h
  split at h
  · rename_i n x y
    rw [denLf] at h; cases h
    rw [show (fFn P (specsOf []) (loopsOf []) Tryd.f20 [.int .i64 n, .int .i64 x, .int .i64 y] []).denN = Tree.denN (Tree.ite (decide (n ≥ x)) (Tree.leaf { v := V.bool (decide (n ≤ y)), upd := [], new := [] }) (Tree.leaf { v := V.fls, upd := [], new := [] })) from by kernel_rfl]
    simp only [denN_ite, denN_leaf, denN_fail]
    unfold inB
    cases decide (n ≥ x) <;> rfl
  · simp [den_fail] at h
theorem rin_ok : SpecOK P 29 wiS := by
  refine specOK_fast (GammaOK.nil P) hm (Λ := loopsOf []) Tryd.func29 (by kernel_rfl) (LoopsOK.nil (by kernel_rfl)) ?_
  intro args bs r h
  unfold wiS at h
  split at h
  · rename_i n x y
    rw [denLf] at h; cases h
    rw [show (fFn P (specsOf []) (loopsOf []) Tryd.f29 [.int .i64 n, .int .i64 x, .int .i64 y] []).denN = Tree.denN (Tree.ite (decide (n ≥ x)) (Tree.leaf { v := V.bool (decide (n ≤ y)), upd := [], new := [] }) (Tree.leaf { v := V.fls, upd := [], new := [] })) from by kernel_rfl]
    simp only [denN_ite, denN_leaf, denN_fail]
    unfold inB
    cases decide (n ≥ x) <;> rfl
  · simp [den_fail] at h
def paB (a b c : Int) : Bool := decide (a ≥ 0) && decide (a ≤ b) && decide (b ≤ 10000000000) && decide (c ≥ 0) && decide (c ≤ 1000000000)
def paS : Rx.Spec := fun a b => match a, b with
  | [.agg [.int .i64 x, .int .i64 y, .int .i64 z]], [] => .leaf ⟨.bool (paB x y z), [], []⟩
  | _, _ => .fail
theorem pa_ok : SpecOK P 39 paS := by
  refine specOK_fast (GammaOK.nil P) hm (Λ := loopsOf []) Tryd.func39 (by kernel_rfl) (LoopsOK.nil (by kernel_rfl)) ?_
  intro args bs r h
  unfold paS at h
  split at h
  · rename_i x y z
    rw [denLf] at h; cases h
    rw [show (fFn P (specsOf []) (loopsOf []) Tryd.f39 [.agg [.int .i64 x, .int .i64 y, .int .i64 z]] []).denN = Tree.denN (Tree.ite (decide (x ≥ 0)) (Tree.ite (decide (x ≤ y)) (Tree.ite (decide (y ≤ 10000000000)) (Tree.ite (decide (z ≥ 0)) (Tree.leaf { v := V.bool (decide (z ≤ 1000000000)), upd := [], new := [] }) (Tree.leaf { v := V.fls, upd := [], new := [] })) (Tree.leaf { v := V.fls, upd := [], new := [] })) (Tree.leaf { v := V.fls, upd := [], new := [] })) (Tree.leaf { v := V.fls, upd := [], new := [] })) from by kernel_rfl]
    simp only [denN_ite, denN_leaf, denN_fail]
    unfold paB
    cases decide (x ≥ 0) <;> cases decide (x ≤ y) <;> cases decide (y ≤ 10000000000) <;> cases decide (z ≥ 0) <;> rfl
  · simp [den_fail] at h
theorem rpa_ok : SpecOK P 40 paS := by
  refine specOK_fast (GammaOK.nil P) hm (Λ := loopsOf []) Tryd.func40 (by kernel_rfl) (LoopsOK.nil (by kernel_rfl)) ?_
  intro args bs r h
  unfold paS at h
  split at h
  · rename_i x y z
    rw [denLf] at h; cases h
    rw [show (fFn P (specsOf []) (loopsOf []) Tryd.f40 [.agg [.int .i64 x, .int .i64 y, .int .i64 z]] []).denN = Tree.denN (Tree.ite (decide (x ≥ 0)) (Tree.ite (decide (y ≥ x)) (Tree.ite (decide (y ≤ 10000000000)) (Tree.ite (decide (z ≥ 0)) (Tree.leaf { v := V.bool (decide (z ≤ 1000000000)), upd := [], new := [] }) (Tree.leaf { v := V.fls, upd := [], new := [] })) (Tree.leaf { v := V.fls, upd := [], new := [] })) (Tree.leaf { v := V.fls, upd := [], new := [] })) (Tree.leaf { v := V.fls, upd := [], new := [] })) from by kernel_rfl]
    simp only [denN_ite, denN_leaf, denN_fail]
    unfold paB
    have e : decide (y ≥ x) = decide (x ≤ y) := rfl
    rw [e]
    cases decide (x ≥ 0) <;> cases decide (x ≤ y) <;> cases decide (y ≤ 10000000000) <;> cases decide (z ≥ 0) <;> rfl
  · simp [den_fail] at h
/-! ### Ports -/
def potOf (r : List V) : Pot := ⟨(r.getD 0 .any).toInt, (r.getD 1 .any).toInt, (r.getD 2 .any).toInt, ⟨(r.getD 3 .any).toInt, (r.getD 4 .any).toInt, (r.getD 5 .any).toInt⟩⟩
def pots (rs : List (List V)) : List Pot := rs.map potOf
abbrev poK : List K := [.int .i64, .int .i64, .int .i64, .int .i64, .int .i64, .int .i64]
theorem pots_len (rs : List (List V)) : (pots rs).length = rs.length := by simp [pots]
theorem pots_get (rs : List (List V)) (i : Nat) : (pots rs).getD i (potOf []) = potOf (rs.getD i []) := by
  rw [List.getD_eq_getElem?_getD, List.getD_eq_getElem?_getD, pots, List.getElem?_map]
  cases rs[i]? <;> rfl
def potB (x : Pot) : Bool := inB x.ev 1000000 1000000000000 && inB x.of_ 2 10 && inB x.ask 1000000 1000000000000 && paB x.pa.mn x.pa.mx x.pa.gr
abbrev bdG : List (Nat × Rx.Spec) := [(20, wiS), (39, paS)]
theorem bdG_ok : GammaOK P bdG := .cons wi_ok (.cons pa_ok (.nil P))
def bdS : Rx.Spec := fun a b => match a, b with
  | [.agg [.int .i64 e, .int .i64 o, .int .i64 k, .int .i64 x, .int .i64 y, .int .i64 z]], [] => .leaf ⟨.bool (!potB ⟨e, o, k, ⟨x, y, z⟩⟩), [], []⟩
  | _, _ => .fail
theorem bd_ok : SpecOK P 28 bdS := by
  refine specOK_fast bdG_ok hm (Λ := loopsOf []) Tryd.func28 (by kernel_rfl) (LoopsOK.nil (by kernel_rfl)) ?_
  intro args bs r h
  unfold bdS at h
  split at h
  · rename_i e o k x y z
    rw [denLf] at h; cases h
    rw [show (fFn P (specsOf bdG) (loopsOf []) Tryd.f28 [.agg [.int .i64 e, .int .i64 o, .int .i64 k, .int .i64 x, .int .i64 y, .int .i64 z]] []).denN = Tree.denN (Tree.ite (!inB e 1000000 1000000000000) (Tree.leaf { v := V.tru, upd := [], new := [] }) (Tree.ite (!inB o 2 10) (Tree.leaf { v := V.tru, upd := [], new := [] }) (Tree.ite (!inB k 1000000 1000000000000) (Tree.leaf { v := V.tru, upd := [], new := [] }) (Tree.leaf { v := V.bool !paB x y z, upd := [], new := [] })))) from by kernel_rfl]
    simp only [denN_ite, denN_leaf, denN_fail]
    unfold potB
    simp only
    cases inB e 1000000 1000000000000 <;> cases inB o 2 10 <;> cases inB k 1000000 1000000000000 <;> cases paB x y z <;> rfl
  · simp [den_fail] at h
theorem drop_po {ls : List Pot} {k : Nat} {x : Pot} {xs : List Pot} {d : Pot} (h : ls.drop k = x :: xs) : ls.getD k d = x ∧ ls.drop (k + 1) = xs := by
  refine ⟨?_, by rw [← List.drop_drop, h]; rfl⟩
  have := congrArg (fun l => l.getD 0 d) h
  simpa [List.getD_eq_getElem?_getD] using this
/-- How many of the first ones may be. -/
def pgo : List Pot → Nat
  | [] => 0
  | x :: xs => if potB x = true then pgo xs + 1 else 0
theorem pgo_le : ∀ l : List Pot, pgo l ≤ l.length
  | [] => Nat.le_refl _
  | x :: xs => by
    have := pgo_le xs
    simp only [pgo, List.length_cons]; split <;> omega
abbrev ifG : List (Nat × Rx.Spec) := [(28, bdS)]
theorem ifG_ok : GammaOK P ifG := .cons bd_ok (.nil P)
theorem if_round (n : Nat) (N i : Int) (rs : List (List V)) : (evRound P (specsOf ifG) (loopsOf []) 19 [0, 1, 7, 8] [4] (loopAt Tryd.f38 0) [.sl 0 0 0 6 n none, .fn (.func 28) [] [], .int .i64 N, .int .i64 i] [.rows poK rs]).den = Tree.den (Tree.ite (decide (i < N)) (Tree.ite (decide (0 ≤ i) && decide (i < (↑n : Int))) (Tree.ite (decide (0 + i.toNat < rs.length)) (Tree.ite (!potB { ev := (V.toInt ((rs.getD (0 + i.toNat) []).getD 0 V.any)), of_ := (V.toInt ((rs.getD (0 + i.toNat) []).getD 1 V.any)), ask := (V.toInt ((rs.getD (0 + i.toNat) []).getD 2 V.any)), pa := { mn := (V.toInt ((rs.getD (0 + i.toNat) []).getD 3 V.any)), mx := (V.toInt ((rs.getD (0 + i.toNat) []).getD 4 V.any)), gr := (V.toInt ((rs.getD (0 + i.toNat) []).getD 5 V.any)) } }) (Tree.leaf { e := Ex.ret, vs := [V.int IntKind.i64 i], upd := [none], new := [] }) (Tree.leaf { e := Ex.nrm, vs := [V.sl 0 0 0 6 n none, V.fn (Fn.func 28) [] [], V.int IntKind.i64 N, V.int IntKind.i64 (IntKind.i64.wrap (i + 1))], upd := [none], new := [] })) Tree.fail) Tree.fail) (Tree.leaf { e := Ex.exit 0, vs := [V.any], upd := [none], new := [] })) := by
  kernel_rfl
theorem if_all {n : Nat} {rs : List (List V)} (hn : n = rs.length) (hn2 : n ≤ 1000000) : ∀ (rest : List Pot) (k : Nat), (pots rs).drop k = rest → k + rest.length = n →
    (loopN P (specsOf ifG) (loopsOf []) 19 [0, 1, 7, 8] [4] (loopAt Tryd.f38 0) (pgo rest + 1) [.sl 0 0 0 6 n none, .fn (.func 28) [] [], .int .i64 n, .int .i64 k] [.rows poK rs]).den =
    some (if pgo rest = rest.length then ⟨.exit 0, [.any], [none], []⟩ else ⟨.ret, [.int .i64 ((k + pgo rest : Nat) : Int)], [none], []⟩) := by
  intro rest
  induction rest with
  | nil =>
    intro k hr hk
    have hx := if_round n n k rs
    rw [decide_eq_false (show ¬ (k : Int) < (n : Int) by simp at hk; omega)] at hx
    exact loopN_end hx (by show Ex.exit 0 ≠ Ex.nrm; decide)
  | cons x xs ih =>
    intro k hr hk
    simp only [List.length_cons] at hk
    obtain ⟨hx, hd⟩ := drop_po (d := potOf []) hr
    rw [pots_get] at hx
    have e0 : V.toInt ((rs.getD k []).getD 0 V.any) = x.ev := by rw [← hx]; rfl
    have e1 : V.toInt ((rs.getD k []).getD 1 V.any) = x.of_ := by rw [← hx]; rfl
    have e2 : V.toInt ((rs.getD k []).getD 2 V.any) = x.ask := by rw [← hx]; rfl
    have e3 : V.toInt ((rs.getD k []).getD 3 V.any) = x.pa.mn := by rw [← hx]; rfl
    have e4 : V.toInt ((rs.getD k []).getD 4 V.any) = x.pa.mx := by rw [← hx]; rfl
    have e5 : V.toInt ((rs.getD k []).getD 5 V.any) = x.pa.gr := by rw [← hx]; rfl
    have st := if_round n n k rs
    have w6 : IntKind.i64.wrap ((k : Int) + 1) = ((k + 1 : Nat) : Int) := by rw [wrap64_id (by omega) (by omega)]; omega
    simp only [Nat.zero_add, Int.toNat_natCast, e0, e1, e2, e3, e4, e5, w6] at st
    rw [decide_eq_true (show (k : Int) < (n : Int) by omega), decide_eq_true (show (0 : Int) ≤ k by omega), decide_eq_true (show k < rs.length by omega)] at st
    cases hc : potB x with
    | false =>
      have e : pgo (x :: xs) = 0 := by rw [pgo, if_neg (by rw [hc]; decide)]
      rw [e, if_neg (by simp)]
      have hc' : potB ⟨x.ev, x.of_, x.ask, ⟨x.pa.mn, x.pa.mx, x.pa.gr⟩⟩ = false := hc
      rw [hc'] at st
      exact loopN_end st (by show Ex.ret ≠ Ex.nrm; decide)
    | true =>
      have e : pgo (x :: xs) = pgo xs + 1 := by rw [pgo, if_pos hc]
      rw [e]
      have hc' : potB ⟨x.ev, x.of_, x.ask, ⟨x.pa.mn, x.pa.mx, x.pa.gr⟩⟩ = true := hc
      rw [hc'] at st
      have ih' := ih (k + 1) hd (by omega)
      refine loopN_step st rfl (vals' := [.sl 0 0 0 6 n none, .fn (.func 28) [] [], .int .i64 n, .int .i64 ((k + 1 : Nat) : Int)]) (bs' := [.rows poK rs]) (by kernel_rfl) (by kernel_rfl) (by kernel_rfl) ih' ?_
      by_cases he : pgo xs = xs.length
      · rw [if_pos he, if_pos (by simp [he])]; (show (seqAfter _ _ _).den = some _; kernel_rfl)
      · rw [if_neg he, if_neg (by simp [he]), show k + (pgo xs + 1) = k + 1 + pgo xs by omega]; (show (seqAfter _ _ _).den = some _; kernel_rfl)
end Go.Proofs.YtkgbphheppfnaaaDoor

set_option maxRecDepth 100000
set_option linter.unusedSimpArgs false
set_option linter.unusedVariables false
namespace Go.Proofs.YtkgbphheppfnaaaDoor
open Go.Rx
def ifF (vals : List V) (bs : List Blk) : Tree LRes := match vals, bs with
  | [.sl 0 0 0 6 n none, .fn (.func 28) [] [], .int .i64 N, .int .i64 i], [.rows [.int .i64, .int .i64, .int .i64, .int .i64, .int .i64, .int .i64] rs] =>
    .need (decide (n = rs.length) && decide (N = n) && decide (i = 0) && decide (n ≤ 1000000)) (.ite (decide (pgo (pots rs) = n)) (.leaf ⟨.exit 0, [.any], [none], []⟩) (.leaf ⟨.ret, [.int .i64 (pgo (pots rs) : Int)], [none], []⟩))
  | _, _ => .fail
def ifL : LSpec := ⟨19, [0, 1, 7, 8], [4], ifF⟩
theorem if_loop : LoopOK P (loopAt Tryd.f38 0) ifL := by
  refine loop_ok ifG_ok Go.Proofs.YtkgbphheppfnaaaDoor.hm (Λ := loopsOf []) (LoopsOK.nil (by kernel_rfl)) _ ?_
  intro vals bs r h
  simp only [ifL, ifF] at h
  split at h
  · rename_i n N i rs
    rw [den_need, denI, denLf, denLf] at h
    simp only [Bool.and_eq_true, decide_eq_true_eq] at h
    obtain ⟨⟨⟨⟨h1, rfl⟩, rfl⟩, h3⟩, h⟩ := h
    have := if_all h1 h3 (pots rs) 0 rfl (by rw [pots_len]; omega)
    refine ⟨pgo (pots rs) + 1, this.trans ?_⟩
    rw [pots_len, ← h1, Nat.zero_add]
    exact (apply_ite some _ _ _).trans h
  · simp [den_fail] at h
def ifZ (ls : List Pot) : Int := if pgo ls = ls.length then -1 else (pgo ls : Int)
def ifS : Rx.Spec := fun a b => match a, b with
  | [.sl 0 0 0 6 n none, .fn (.func 28) [] []], [.rows [.int .i64, .int .i64, .int .i64, .int .i64, .int .i64, .int .i64] rs] => .need (decide (n = rs.length) && decide (n ≤ 1000000)) (.leaf ⟨.int .i64 (ifZ (pots rs)), [none], []⟩)
  | _, _ => .fail
theorem if_ok : SpecOK P 38 ifS := by
  refine specOK_fast ifG_ok hm (Λ := loopsOf [(2, ifL)]) Tryd.func38 (by kernel_rfl) (LoopsOK.one (by kernel_rfl) if_loop) ?_
  intro args bs r h
  unfold ifS at h
  split at h
  · rename_i n rs
    rw [den_need, denLf] at h
    simp only [Bool.and_eq_true, decide_eq_true_eq] at h
    obtain ⟨⟨h1, h2⟩, h⟩ := h
    cases h
    rw [show (fFn P (specsOf ifG) (loopsOf [(2, ifL)]) Tryd.f38 [.sl 0 0 0 6 n none, .fn (.func 28) [] []] [.rows poK rs]).denN = Tree.denN (Tree.ite (decide (n = rs.length) && decide ((↑n : Int) = (↑n : Int)) && true && decide (n ≤ 1000000)) (Tree.ite (decide (pgo (pots rs) = n)) (Tree.leaf { v := V.int IntKind.i64 (-1), upd := [none], new := [] }) (Tree.leaf { v := V.int IntKind.i64 (↑(pgo (pots rs)) : Int), upd := [none], new := [] })) Tree.fail) from by kernel_rfl]
    simp only [denN_ite, denN_leaf, denN_fail, decide_eq_true h1, decide_eq_true h2, decide_true]
    unfold ifZ
    rw [pots_len, ← h1]
    by_cases he : pgo (pots rs) = n
    · rw [if_pos he, decide_eq_true he]; rfl
    · rw [if_neg he, decide_eq_false he]; rfl
  · simp [den_fail] at h
def allP (ls : List Pot) : Bool := decide (pgo ls = ls.length)
abbrev cfG : List (Nat × Rx.Spec) := [(38, ifS)]
theorem cfG_ok : GammaOK P cfG := .cons if_ok (.nil P)
def cfS : Rx.Spec := fun a b => match a, b with
  | [.sl 0 0 0 6 n none, .fn (.func 28) [] []], [.rows [.int .i64, .int .i64, .int .i64, .int .i64, .int .i64, .int .i64] rs] => .need (decide (n = rs.length) && decide (n ≤ 1000000)) (.leaf ⟨.bool (!allP (pots rs)), [none], []⟩)
  | _, _ => .fail
theorem cf_ok : SpecOK P 27 cfS := by
  refine specOK_fast cfG_ok hm (Λ := loopsOf []) Tryd.func27 (by kernel_rfl) (LoopsOK.nil (by kernel_rfl)) ?_
  intro args bs r h
  unfold cfS at h
  split at h
  · rename_i n rs
    rw [den_need, denLf] at h
    simp only [Bool.and_eq_true, decide_eq_true_eq] at h
    obtain ⟨⟨h1, h2⟩, h⟩ := h
    cases h
    rw [show (fFn P (specsOf cfG) (loopsOf []) Tryd.f27 [.sl 0 0 0 6 n none, .fn (.func 28) [] []] [.rows poK rs]).denN = Tree.denN (Tree.ite (decide (n = rs.length) && decide (n ≤ 1000000)) (Tree.leaf { v := V.bool (decide (ifZ (pots rs) ≥ 0)), upd := [none], new := [] }) Tree.fail) from by kernel_rfl]
    simp only [denN_ite, denN_leaf, denN_fail, decide_eq_true h1, decide_eq_true h2]
    unfold allP ifZ
    by_cases he : pgo (pots rs) = (pots rs).length
    · rw [if_pos he, decide_eq_true he]; rfl
    · rw [if_neg he, decide_eq_false he, decide_eq_true (show (pgo (pots rs) : Int) ≥ 0 by omega)]; rfl
  · simp [den_fail] at h
/-! ### The reference -/
abbrev rpG : List (Nat × Rx.Spec) := [(29, wiS), (40, paS)]
theorem rpG_ok : GammaOK P rpG := .cons rin_ok (.cons rpa_ok (.nil P))
theorem rp_round (n : Nat) (i : Int) (rs : List (List V)) : (evRound P (specsOf rpG) (loopsOf []) 45 [0, 3] [2] (loopAt Tryd.f30 0) [.sl 0 0 0 6 n none, .int .i64 i] [.rows poK rs]).den = Tree.den (Tree.ite (decide (i < (↑n : Int))) (Tree.ite (decide (0 ≤ i) && decide (i < (↑n : Int))) (Tree.ite (decide (0 + i.toNat < rs.length)) (Tree.ite (!inB (V.toInt ((rs.getD (0 + i.toNat) []).getD 0 V.any)) 1000000 1000000000000) (Tree.leaf { e := Ex.ret, vs := [V.fls], upd := [none], new := [] }) (Tree.ite (!inB (V.toInt ((rs.getD (0 + i.toNat) []).getD 1 V.any)) 2 10) (Tree.leaf { e := Ex.ret, vs := [V.fls], upd := [none], new := [] }) (Tree.ite (!inB (V.toInt ((rs.getD (0 + i.toNat) []).getD 2 V.any)) 1000000 1000000000000) (Tree.leaf { e := Ex.ret, vs := [V.fls], upd := [none], new := [] }) (Tree.ite (!paB (V.toInt ((rs.getD (0 + i.toNat) []).getD 3 V.any)) (V.toInt ((rs.getD (0 + i.toNat) []).getD 4 V.any)) (V.toInt ((rs.getD (0 + i.toNat) []).getD 5 V.any))) (Tree.leaf { e := Ex.ret, vs := [V.fls], upd := [none], new := [] }) (Tree.leaf { e := Ex.nrm, vs := [V.sl 0 0 0 6 n none, V.int IntKind.i64 (IntKind.i64.wrap (i + 1))], upd := [none], new := [] }))))) Tree.fail) Tree.fail) (Tree.leaf { e := Ex.exit 0, vs := [V.any], upd := [none], new := [] })) := by
  kernel_rfl
theorem rp_all {n : Nat} {rs : List (List V)} (hn : n = rs.length) (hn2 : n ≤ 100000000000000) : ∀ (rest : List Pot) (k : Nat), (pots rs).drop k = rest → k + rest.length = n →
    (loopN P (specsOf rpG) (loopsOf []) 45 [0, 3] [2] (loopAt Tryd.f30 0) (pgo rest + 1) [.sl 0 0 0 6 n none, .int .i64 k] [.rows poK rs]).den =
    some (if pgo rest = rest.length then ⟨.exit 0, [.any], [none], []⟩ else ⟨.ret, [.fls], [none], []⟩) := by
  intro rest
  induction rest with
  | nil =>
    intro k hr hk
    have hx := rp_round n k rs
    rw [decide_eq_false (show ¬ (k : Int) < (n : Int) by simp at hk; omega)] at hx
    exact loopN_end hx (by show Ex.exit 0 ≠ Ex.nrm; decide)
  | cons x xs ih =>
    intro k hr hk
    simp only [List.length_cons] at hk
    obtain ⟨hx, hd⟩ := drop_po (d := potOf []) hr
    rw [pots_get] at hx
    have e0 : V.toInt ((rs.getD k []).getD 0 V.any) = x.ev := by rw [← hx]; rfl
    have e1 : V.toInt ((rs.getD k []).getD 1 V.any) = x.of_ := by rw [← hx]; rfl
    have e2 : V.toInt ((rs.getD k []).getD 2 V.any) = x.ask := by rw [← hx]; rfl
    have e3 : V.toInt ((rs.getD k []).getD 3 V.any) = x.pa.mn := by rw [← hx]; rfl
    have e4 : V.toInt ((rs.getD k []).getD 4 V.any) = x.pa.mx := by rw [← hx]; rfl
    have e5 : V.toInt ((rs.getD k []).getD 5 V.any) = x.pa.gr := by rw [← hx]; rfl
    have st := rp_round n k rs
    have w6 : IntKind.i64.wrap ((k : Int) + 1) = ((k + 1 : Nat) : Int) := by rw [wrap64_id (by omega) (by omega)]; omega
    simp only [Nat.zero_add, Int.toNat_natCast, e0, e1, e2, e3, e4, e5, w6] at st
    rw [decide_eq_true (show (k : Int) < (n : Int) by omega), decide_eq_true (show (0 : Int) ≤ k by omega), decide_eq_true (show k < rs.length by omega)] at st
    have hp : potB x = (inB x.ev 1000000 1000000000000 && inB x.of_ 2 10 && inB x.ask 1000000 1000000000000 && paB x.pa.mn x.pa.mx x.pa.gr) := rfl
    cases hc : potB x with
    | false =>
      have e : pgo (x :: xs) = 0 := by rw [pgo, if_neg (by rw [hc]; decide)]
      rw [e, if_neg (by simp)]
      rw [hp] at hc
      have st' : (evRound P (specsOf rpG) (loopsOf []) 45 [0, 3] [2] (loopAt Tryd.f30 0) [.sl 0 0 0 6 n none, .int .i64 k] [.rows poK rs]).den = some ⟨.ret, [.fls], [none], []⟩ := by
        rw [st]
        cases h1 : inB x.ev 1000000 1000000000000 <;> cases h2 : inB x.of_ 2 10 <;> cases h3 : inB x.ask 1000000 1000000000000 <;> cases h4 : paB x.pa.mn x.pa.mx x.pa.gr <;> rw [h1, h2, h3, h4] at hc <;> first | rfl | cases hc
      exact loopN_end st' (by show Ex.ret ≠ Ex.nrm; decide)
    | true =>
      have e : pgo (x :: xs) = pgo xs + 1 := by rw [pgo, if_pos hc]
      rw [e]
      rw [hp] at hc
      simp only [Bool.and_eq_true] at hc
      obtain ⟨⟨⟨h1, h2⟩, h3⟩, h4⟩ := hc
      rw [h1, h2, h3, h4] at st
      have ih' := ih (k + 1) hd (by omega)
      refine loopN_step st rfl (vals' := [.sl 0 0 0 6 n none, .int .i64 ((k + 1 : Nat) : Int)]) (bs' := [.rows poK rs]) (by kernel_rfl) (by kernel_rfl) (by kernel_rfl) ih' ?_
      by_cases he : pgo xs = xs.length
      · rw [if_pos he, if_pos (by simp [he])]; (show (seqAfter _ _ _).den = some _; kernel_rfl)
      · rw [if_neg he, if_neg (by simp [he])]; (show (seqAfter _ _ _).den = some _; kernel_rfl)
def rpF (vals : List V) (bs : List Blk) : Tree LRes := match vals, bs with
  | [.sl 0 0 0 6 n none, .int .i64 i], [.rows [.int .i64, .int .i64, .int .i64, .int .i64, .int .i64, .int .i64] rs] =>
    .need (decide (n = rs.length) && decide (i = 0) && decide (n ≤ 100000000000000)) (.ite (allP (pots rs)) (.leaf ⟨.exit 0, [.any], [none], []⟩) (.leaf ⟨.ret, [.fls], [none], []⟩))
  | _, _ => .fail
def rpL : LSpec := ⟨45, [0, 3], [2], rpF⟩
theorem rp_loop : LoopOK P (loopAt Tryd.f30 0) rpL := by
  refine loop_ok rpG_ok Go.Proofs.YtkgbphheppfnaaaDoor.hm (Λ := loopsOf []) (LoopsOK.nil (by kernel_rfl)) _ ?_
  intro vals bs r h
  simp only [rpL, rpF] at h
  split at h
  · rename_i n i rs
    rw [den_need, denI, denLf, denLf] at h
    simp only [Bool.and_eq_true, decide_eq_true_eq] at h
    obtain ⟨⟨⟨h1, rfl⟩, h3⟩, h⟩ := h
    have := rp_all h1 h3 (pots rs) 0 rfl (by rw [pots_len]; omega)
    refine ⟨pgo (pots rs) + 1, this.trans ?_⟩
    unfold allP at h
    rw [← h]
    by_cases he : pgo (pots rs) = (pots rs).length
    · rw [if_pos he, if_pos (by simpa using he)]
    · rw [if_neg he, if_neg (by simpa using he)]
  · simp [den_fail] at h
def okP (n : Nat) (ls : List Pot) : Bool := allP ls && decide (1 ≤ n) && decide (n ≤ 8)
def rpS : Rx.Spec := fun a b => match a, b with
  | [.sl 0 0 0 6 n none], [.rows [.int .i64, .int .i64, .int .i64, .int .i64, .int .i64, .int .i64] rs] => .need (decide (n = rs.length) && decide (n ≤ 100000000000000)) (.leaf ⟨.bool (okP n (pots rs)), [none], []⟩)
  | _, _ => .fail
theorem rp_ok : SpecOK P 30 rpS := by
  refine specOK_fast rpG_ok hm (Λ := loopsOf [(2, rpL)]) Tryd.func30 (by kernel_rfl) (LoopsOK.one (by kernel_rfl) rp_loop) ?_
  intro args bs r h
  unfold rpS at h
  split at h
  · rename_i n rs
    rw [den_need, denLf] at h
    simp only [Bool.and_eq_true, decide_eq_true_eq] at h
    obtain ⟨⟨h1, h2⟩, h⟩ := h
    cases h
    rw [show (fFn P (specsOf rpG) (loopsOf [(2, rpL)]) Tryd.f30 [.sl 0 0 0 6 n none] [.rows poK rs]).denN = Tree.denN (Tree.ite (decide (n = rs.length) && true && decide (n ≤ 100000000000000)) (Tree.ite (allP (pots rs)) (Tree.ite (decide ((↑n : Int) > 0)) (Tree.leaf { v := V.bool (decide ((↑n : Int) < 9)), upd := [none], new := [] }) (Tree.leaf { v := V.fls, upd := [none], new := [] })) (Tree.leaf { v := V.fls, upd := [none], new := [] })) Tree.fail) from by kernel_rfl]
    simp only [denN_ite, denN_leaf, denN_fail, decide_eq_true h1, decide_eq_true h2, decide_true]
    unfold okP
    cases allP (pots rs) with
    | false => rfl
    | true =>
      by_cases q1 : 1 ≤ n
      · rw [decide_eq_true (show (n : Int) > 0 by omega), decide_eq_true q1]
        by_cases q2 : n ≤ 8
        · rw [decide_eq_true (show (n : Int) < 9 by omega), decide_eq_true q2]; rfl
        · rw [decide_eq_false (show ¬ (n : Int) < 9 by omega), decide_eq_false q2]; rfl
      · rw [decide_eq_false (show ¬ (n : Int) > 0 by omega), decide_eq_false q1]; rfl
  · simp [den_fail] at h
end Go.Proofs.YtkgbphheppfnaaaDoor

set_option maxRecDepth 100000
set_option linter.unusedSimpArgs false
set_option linter.unusedVariables false
namespace Go.Proofs.YtkgbphheppfnaaaDoor
open Go.Rx
abbrev clG : List (Nat × Rx.Spec) := [(20, wiS), (18, zeS), (27, cfS)]
theorem clG_ok : GammaOK P clG := .cons wi_ok (.cons ze_ok (.cons cf_ok (.nil P)))
noncomputable abbrev inl (f : Func) : Rx.Spec := fFn P (specsOf clG) (loopsOf []) f
noncomputable abbrev ckG : List (Nat × Rx.Spec) := [(17, inl Tryd.f17), (19, inl Tryd.f19), (21, inl Tryd.f21), (22, inl Tryd.f22), (23, inl Tryd.f23), (24, inl Tryd.f24), (25, inl Tryd.f25), (26, inl Tryd.f26)]
theorem ckG_ok : GammaOK P ckG := .cons (inl_ok clG_ok hm Tryd.func17 (by kernel_rfl) (LoopsOK.nil (by kernel_rfl))) (.cons (inl_ok clG_ok hm Tryd.func19 (by kernel_rfl) (LoopsOK.nil (by kernel_rfl))) (.cons (inl_ok clG_ok hm Tryd.func21 (by kernel_rfl) (LoopsOK.nil (by kernel_rfl))) (.cons (inl_ok clG_ok hm Tryd.func22 (by kernel_rfl) (LoopsOK.nil (by kernel_rfl))) (.cons (inl_ok clG_ok hm Tryd.func23 (by kernel_rfl) (LoopsOK.nil (by kernel_rfl))) (.cons (inl_ok clG_ok hm Tryd.func24 (by kernel_rfl) (LoopsOK.nil (by kernel_rfl))) (.cons (inl_ok clG_ok hm Tryd.func25 (by kernel_rfl) (LoopsOK.nil (by kernel_rfl))) (.cons (inl_ok clG_ok hm Tryd.func26 (by kernel_rfl) (LoopsOK.nil (by kernel_rfl))) (.nil P))))))))
noncomputable abbrev ckL : LSpec := fUnroll P (specsOf ckG) (loopsOf []) Tryd.f8 (loopAt Tryd.f8 0) 9
theorem ck_loop : LoopOK P (loopAt Tryd.f8 0) ckL := fUnroll_ok ckG_ok hm (Λ := loopsOf []) (LoopsOK.nil (by kernel_rfl)) _ _
def wClock : ByteArray := ⟨#[99, 108, 111, 99, 107]⟩
def wDomain : ByteArray := ⟨#[100, 111, 109, 97, 105, 110]⟩
def wPriority : ByteArray := ⟨#[112, 114, 105, 111, 114, 105, 116, 121]⟩
def wClass : ByteArray := ⟨#[99, 108, 97, 115, 115]⟩
def wAccuracy : ByteArray := ⟨#[97, 99, 99, 117, 114, 97, 99, 121]⟩
def wVariance : ByteArray := ⟨#[118, 97, 114, 105, 97, 110, 99, 101]⟩
def wPpb : ByteArray := ⟨#[112, 112, 98]⟩
def wPort : ByteArray := ⟨#[112, 111, 114, 116]⟩
def wNone : ByteArray := ⟨#[]⟩
/-- The word of what is amiss first; nothing: nothing is. -/
def chkW (c : Cfh) (n : Nat) (ps : List Pot) : ByteArray :=
  if Ck.eqB c.id Ck.zero = true then wClock else if (!inB c.dom 0 127) = true then wDomain else if (!(inB c.p1 0 255 && inB c.p2 0 255)) = true then wPriority else
  if (!(inB c.q.cl 0 255 && (c.sl == (c.q.cl == 255)))) = true then wClass else if (!inB c.q.ac 0 255) = true then wAccuracy else if (!inB c.q.va 0 65535) = true then wVariance else
  if (!inB c.ppb 0 1000000) = true then wPpb else if (!(inB n 1 8 && allP ps)) = true then wPort else wNone
def chS : Rx.Spec := fun a b => match a with
  | [.agg cs] => match Cfh.p cs with
    | some (c, [.sl 0 0 0 6 n none]) => match b with
      | [.rows [.int .i64, .int .i64, .int .i64, .int .i64, .int .i64, .int .i64] rs] => .need (decide (n = rs.length)) (.leaf ⟨.str (chkW c n (pots rs)), [none], []⟩)
      | _ => .fail
    | some (c, [.nils]) => match b with
      | [] => .leaf ⟨.str (chkW c 0 []), [], []⟩
      | _ => .fail
    | _ => .fail
  | _ => .fail
theorem ck_ok : SpecOK P 8 chS := by
  refine specOK_fast ckG_ok hm (Λ := loopsOf [(3, ckL)]) Tryd.func8 (by kernel_rfl) (LoopsOK.one (by kernel_rfl) ck_loop) ?_
  intro args bs r h
  unfold chS at h
  split at h
  · split at h
    · split at h
      · rename_i cs _ c n hc _ rs
        rw [Cfh.p_eq hc]
        rw [den_need, denLf] at h
        simp only [decide_eq_true_eq] at h
        obtain ⟨h1, h⟩ := h
        cases h
        rw [show (fFn P (specsOf ckG) (loopsOf [(3, ckL)]) Tryd.f8 [.agg (c.vs ++ [.sl 0 0 0 6 n none])] [.rows poK rs]).denN = Tree.denN (Tree.ite (Ck.eqB c.id Ck.zero) (Tree.leaf { v := V.str { data := #[OfNat.ofNat 99, OfNat.ofNat 108, OfNat.ofNat 111, OfNat.ofNat 99, OfNat.ofNat 107] }, upd := [none], new := [] }) (Tree.ite (!inB c.2 0 127) (Tree.leaf { v := V.str { data := #[OfNat.ofNat 100, OfNat.ofNat 111, OfNat.ofNat 109, OfNat.ofNat 97, OfNat.ofNat 105, OfNat.ofNat 110] }, upd := [none], new := [] }) (Tree.ite (!inB c.3 0 255) (Tree.leaf { v := V.str { data := #[OfNat.ofNat 112, OfNat.ofNat 114, OfNat.ofNat 105, OfNat.ofNat 111, OfNat.ofNat 114, OfNat.ofNat 105, OfNat.ofNat 116, OfNat.ofNat 121] }, upd := [none], new := [] }) (Tree.ite (!inB c.4 0 255) (Tree.leaf { v := V.str { data := #[OfNat.ofNat 112, OfNat.ofNat 114, OfNat.ofNat 105, OfNat.ofNat 111, OfNat.ofNat 114, OfNat.ofNat 105, OfNat.ofNat 116, OfNat.ofNat 121] }, upd := [none], new := [] }) (Tree.ite (!inB c.q.1 0 255) (Tree.leaf { v := V.str { data := #[OfNat.ofNat 99, OfNat.ofNat 108, OfNat.ofNat 97, OfNat.ofNat 115, OfNat.ofNat 115] }, upd := [none], new := [] }) (Tree.ite (!c.7 == (c.q.1 == 255)) (Tree.leaf { v := V.str { data := #[OfNat.ofNat 99, OfNat.ofNat 108, OfNat.ofNat 97, OfNat.ofNat 115, OfNat.ofNat 115] }, upd := [none], new := [] }) (Tree.ite (!inB c.q.2 0 255) (Tree.leaf { v := V.str { data := #[OfNat.ofNat 97, OfNat.ofNat 99, OfNat.ofNat 99, OfNat.ofNat 117, OfNat.ofNat 114, OfNat.ofNat 97, OfNat.ofNat 99, OfNat.ofNat 121] }, upd := [none], new := [] }) (Tree.ite (!inB c.q.3 0 65535) (Tree.leaf { v := V.str { data := #[OfNat.ofNat 118, OfNat.ofNat 97, OfNat.ofNat 114, OfNat.ofNat 105, OfNat.ofNat 97, OfNat.ofNat 110, OfNat.ofNat 99, OfNat.ofNat 101] }, upd := [none], new := [] }) (Tree.ite (!inB c.6 0 1000000) (Tree.leaf { v := V.str { data := #[OfNat.ofNat 112, OfNat.ofNat 112, OfNat.ofNat 98] }, upd := [none], new := [] }) (Tree.ite (!inB (↑n : Int) 1 8) (Tree.leaf { v := V.str { data := #[OfNat.ofNat 112, OfNat.ofNat 111, OfNat.ofNat 114, OfNat.ofNat 116] }, upd := [none], new := [] }) (Tree.ite (decide (n = rs.length) && decide (n ≤ 1000000)) (Tree.ite (!allP (pots rs)) (Tree.leaf { v := V.str { data := #[OfNat.ofNat 112, OfNat.ofNat 111, OfNat.ofNat 114, OfNat.ofNat 116] }, upd := [none], new := [] }) (Tree.leaf { v := V.str { data := #[] }, upd := [none], new := [] })) Tree.fail))))))))))) from by kernel_rfl]
        simp only [denN_ite, denN_leaf, denN_fail, decide_eq_true h1]
        unfold chkW
        have h1m : inB (n : Int) 1 8 = true → decide (n ≤ 1000000) = true := by
          intro h; simp only [inB, Bool.and_eq_true, decide_eq_true_eq] at h; rw [decide_eq_true_eq]; omega
        revert h1m
        generalize Ck.eqB c.id Ck.zero = x1
        generalize inB c.dom 0 127 = x2
        generalize inB c.p1 0 255 = x3
        generalize inB c.p2 0 255 = x4
        generalize inB c.q.cl 0 255 = x5
        generalize (c.sl == (c.q.cl == 255)) = x6
        generalize inB c.q.ac 0 255 = x7
        generalize inB c.q.va 0 65535 = x8
        generalize inB c.ppb 0 1000000 = x9
        generalize inB (n : Int) 1 8 = x10
        generalize allP (pots rs) = x11
        generalize decide (n ≤ 1000000) = x12
        intro h1m
        cases x1 with
        | true => rfl
        | false =>
          cases x2 with
          | false => rfl
          | true =>
            cases x3 with
            | false => rfl
            | true =>
              cases x4 with
              | false => rfl
              | true =>
                cases x5 with
                | false => rfl
                | true =>
                  cases x6 with
                  | false => rfl
                  | true =>
                    cases x7 with
                    | false => rfl
                    | true =>
                      cases x8 with
                      | false => rfl
                      | true =>
                        cases x9 with
                        | false => rfl
                        | true =>
                          cases x10 with
                          | false => rfl
                          | true =>
                            (rw [h1m rfl]; cases x11 <;> rfl)
      · simp [den_fail] at h
    · split at h
      · rename_i cs _ c hc _
        rw [Cfh.p_eq hc]
        rw [denLf] at h
        cases h
        rw [show (fFn P (specsOf ckG) (loopsOf [(3, ckL)]) Tryd.f8 [.agg (c.vs ++ [.nils])] []).denN = Tree.denN (Tree.ite (Ck.eqB c.id Ck.zero) (Tree.leaf { v := V.str { data := #[OfNat.ofNat 99, OfNat.ofNat 108, OfNat.ofNat 111, OfNat.ofNat 99, OfNat.ofNat 107] }, upd := [], new := [] }) (Tree.ite (!inB c.2 0 127) (Tree.leaf { v := V.str { data := #[OfNat.ofNat 100, OfNat.ofNat 111, OfNat.ofNat 109, OfNat.ofNat 97, OfNat.ofNat 105, OfNat.ofNat 110] }, upd := [], new := [] }) (Tree.ite (!inB c.3 0 255) (Tree.leaf { v := V.str { data := #[OfNat.ofNat 112, OfNat.ofNat 114, OfNat.ofNat 105, OfNat.ofNat 111, OfNat.ofNat 114, OfNat.ofNat 105, OfNat.ofNat 116, OfNat.ofNat 121] }, upd := [], new := [] }) (Tree.ite (!inB c.4 0 255) (Tree.leaf { v := V.str { data := #[OfNat.ofNat 112, OfNat.ofNat 114, OfNat.ofNat 105, OfNat.ofNat 111, OfNat.ofNat 114, OfNat.ofNat 105, OfNat.ofNat 116, OfNat.ofNat 121] }, upd := [], new := [] }) (Tree.ite (!inB c.q.1 0 255) (Tree.leaf { v := V.str { data := #[OfNat.ofNat 99, OfNat.ofNat 108, OfNat.ofNat 97, OfNat.ofNat 115, OfNat.ofNat 115] }, upd := [], new := [] }) (Tree.ite (!c.7 == (c.q.1 == 255)) (Tree.leaf { v := V.str { data := #[OfNat.ofNat 99, OfNat.ofNat 108, OfNat.ofNat 97, OfNat.ofNat 115, OfNat.ofNat 115] }, upd := [], new := [] }) (Tree.ite (!inB c.q.2 0 255) (Tree.leaf { v := V.str { data := #[OfNat.ofNat 97, OfNat.ofNat 99, OfNat.ofNat 99, OfNat.ofNat 117, OfNat.ofNat 114, OfNat.ofNat 97, OfNat.ofNat 99, OfNat.ofNat 121] }, upd := [], new := [] }) (Tree.ite (!inB c.q.3 0 65535) (Tree.leaf { v := V.str { data := #[OfNat.ofNat 118, OfNat.ofNat 97, OfNat.ofNat 114, OfNat.ofNat 105, OfNat.ofNat 97, OfNat.ofNat 110, OfNat.ofNat 99, OfNat.ofNat 101] }, upd := [], new := [] }) (Tree.ite (!inB c.6 0 1000000) (Tree.leaf { v := V.str { data := #[OfNat.ofNat 112, OfNat.ofNat 112, OfNat.ofNat 98] }, upd := [], new := [] }) (Tree.leaf { v := V.str { data := #[OfNat.ofNat 112, OfNat.ofNat 111, OfNat.ofNat 114, OfNat.ofNat 116] }, upd := [], new := [] })))))))))) from by kernel_rfl]
        simp only [denN_ite, denN_leaf, denN_fail]
        unfold chkW
        generalize Ck.eqB c.id Ck.zero = x1
        generalize inB c.dom 0 127 = x2
        generalize inB c.p1 0 255 = x3
        generalize inB c.p2 0 255 = x4
        generalize inB c.q.cl 0 255 = x5
        generalize (c.sl == (c.q.cl == 255)) = x6
        generalize inB c.q.ac 0 255 = x7
        generalize inB c.q.va 0 65535 = x8
        generalize inB c.ppb 0 1000000 = x9
        cases x1 with
        | true => rfl
        | false =>
          cases x2 with
          | false => rfl
          | true =>
            cases x3 with
            | false => rfl
            | true =>
              cases x4 with
              | false => rfl
              | true =>
                cases x5 with
                | false => rfl
                | true =>
                  cases x6 with
                  | false => rfl
                  | true =>
                    cases x7 with
                    | false => rfl
                    | true =>
                      cases x8 with
                      | false => rfl
                      | true =>
                        cases x9 with
                        | false => rfl
                        | true =>
                          rfl
      · simp [den_fail] at h
    · simp [den_fail] at h
  · simp [den_fail] at h
abbrev rcG : List (Nat × Rx.Spec) := [(29, wiS), (30, rpS)]
theorem rcG_ok : GammaOK P rcG := .cons rin_ok (.cons rp_ok (.nil P))
def rcS : Rx.Spec := fun a b => match a with
  | [.agg cs] => match Cfh.p cs with
    | some (c, [.sl 0 0 0 6 n none]) => match b with
      | [.rows [.int .i64, .int .i64, .int .i64, .int .i64, .int .i64, .int .i64] rs] => .need (decide (n = rs.length) && decide (n ≤ 100000000000000)) (.leaf ⟨.str (chkW c n (pots rs)), [none], []⟩)
      | _ => .fail
    | _ => .fail
  | _ => .fail
theorem okP_eq (n : Nat) (ps : List Pot) : okP n ps = (inB (n : Int) 1 8 && allP ps) := by
  unfold okP inB
  rw [show decide ((n : Int) ≥ 1) = decide (1 ≤ n) by rw [Bool.eq_iff_iff, decide_eq_true_eq, decide_eq_true_eq]; omega, show decide ((n : Int) ≤ 8) = decide (n ≤ 8) by rw [Bool.eq_iff_iff, decide_eq_true_eq, decide_eq_true_eq]; omega]
  cases allP ps <;> cases decide (1 ≤ n) <;> cases decide (n ≤ 8) <;> rfl
theorem rck_ok : SpecOK P 10 rcS := by
  refine specOK_fast rcG_ok hm (Λ := loopsOf []) Tryd.func10 (by kernel_rfl) (LoopsOK.nil (by kernel_rfl)) ?_
  intro args bs r h
  unfold rcS at h
  split at h
  · split at h
    · split at h
      · rename_i cs _ c n hc _ rs
        rw [Cfh.p_eq hc]
        rw [den_need, denLf] at h
        simp only [Bool.and_eq_true, decide_eq_true_eq] at h
        obtain ⟨⟨h1, h2⟩, h⟩ := h
        cases h
        rw [show (fFn P (specsOf rcG) (loopsOf []) Tryd.f10 [.agg (c.vs ++ [.sl 0 0 0 6 n none])] [.rows poK rs]).denN = Tree.denN (Tree.ite (Ck.eqB c.id Ck.zero) (Tree.leaf { v := V.str { data := #[OfNat.ofNat 99, OfNat.ofNat 108, OfNat.ofNat 111, OfNat.ofNat 99, OfNat.ofNat 107] }, upd := [none], new := [] }) (Tree.ite (!inB c.2 0 127) (Tree.leaf { v := V.str { data := #[OfNat.ofNat 100, OfNat.ofNat 111, OfNat.ofNat 109, OfNat.ofNat 97, OfNat.ofNat 105, OfNat.ofNat 110] }, upd := [none], new := [] }) (Tree.ite (!inB c.3 0 255) (Tree.leaf { v := V.str { data := #[OfNat.ofNat 112, OfNat.ofNat 114, OfNat.ofNat 105, OfNat.ofNat 111, OfNat.ofNat 114, OfNat.ofNat 105, OfNat.ofNat 116, OfNat.ofNat 121] }, upd := [none], new := [] }) (Tree.ite (!inB c.4 0 255) (Tree.leaf { v := V.str { data := #[OfNat.ofNat 112, OfNat.ofNat 114, OfNat.ofNat 105, OfNat.ofNat 111, OfNat.ofNat 114, OfNat.ofNat 105, OfNat.ofNat 116, OfNat.ofNat 121] }, upd := [none], new := [] }) (Tree.ite (!inB c.q.1 0 255) (Tree.leaf { v := V.str { data := #[OfNat.ofNat 99, OfNat.ofNat 108, OfNat.ofNat 97, OfNat.ofNat 115, OfNat.ofNat 115] }, upd := [none], new := [] }) (Tree.ite c.7 (Tree.ite (c.q.1 != 255) (Tree.leaf { v := V.str { data := #[OfNat.ofNat 99, OfNat.ofNat 108, OfNat.ofNat 97, OfNat.ofNat 115, OfNat.ofNat 115] }, upd := [none], new := [] }) (Tree.ite (!c.7) (Tree.ite (c.q.1 == 255) (Tree.leaf { v := V.str { data := #[OfNat.ofNat 99, OfNat.ofNat 108, OfNat.ofNat 97, OfNat.ofNat 115, OfNat.ofNat 115] }, upd := [none], new := [] }) (Tree.ite (!inB c.q.2 0 255) (Tree.leaf { v := V.str { data := #[OfNat.ofNat 97, OfNat.ofNat 99, OfNat.ofNat 99, OfNat.ofNat 117, OfNat.ofNat 114, OfNat.ofNat 97, OfNat.ofNat 99, OfNat.ofNat 121] }, upd := [none], new := [] }) (Tree.ite (!inB c.q.3 0 65535) (Tree.leaf { v := V.str { data := #[OfNat.ofNat 118, OfNat.ofNat 97, OfNat.ofNat 114, OfNat.ofNat 105, OfNat.ofNat 97, OfNat.ofNat 110, OfNat.ofNat 99, OfNat.ofNat 101] }, upd := [none], new := [] }) (Tree.ite (!inB c.6 0 1000000) (Tree.leaf { v := V.str { data := #[OfNat.ofNat 112, OfNat.ofNat 112, OfNat.ofNat 98] }, upd := [none], new := [] }) (Tree.ite (decide (n = rs.length) && decide (n ≤ 100000000000000)) (Tree.ite (!okP n (pots rs)) (Tree.leaf { v := V.str { data := #[OfNat.ofNat 112, OfNat.ofNat 111, OfNat.ofNat 114, OfNat.ofNat 116] }, upd := [none], new := [] }) (Tree.leaf { v := V.str { data := #[] }, upd := [none], new := [] })) Tree.fail))))) (Tree.ite (!inB c.q.2 0 255) (Tree.leaf { v := V.str { data := #[OfNat.ofNat 97, OfNat.ofNat 99, OfNat.ofNat 99, OfNat.ofNat 117, OfNat.ofNat 114, OfNat.ofNat 97, OfNat.ofNat 99, OfNat.ofNat 121] }, upd := [none], new := [] }) (Tree.ite (!inB c.q.3 0 65535) (Tree.leaf { v := V.str { data := #[OfNat.ofNat 118, OfNat.ofNat 97, OfNat.ofNat 114, OfNat.ofNat 105, OfNat.ofNat 97, OfNat.ofNat 110, OfNat.ofNat 99, OfNat.ofNat 101] }, upd := [none], new := [] }) (Tree.ite (!inB c.6 0 1000000) (Tree.leaf { v := V.str { data := #[OfNat.ofNat 112, OfNat.ofNat 112, OfNat.ofNat 98] }, upd := [none], new := [] }) (Tree.ite (decide (n = rs.length) && decide (n ≤ 100000000000000)) (Tree.ite (!okP n (pots rs)) (Tree.leaf { v := V.str { data := #[OfNat.ofNat 112, OfNat.ofNat 111, OfNat.ofNat 114, OfNat.ofNat 116] }, upd := [none], new := [] }) (Tree.leaf { v := V.str { data := #[] }, upd := [none], new := [] })) Tree.fail)))))) (Tree.ite (!c.7) (Tree.ite (c.q.1 == 255) (Tree.leaf { v := V.str { data := #[OfNat.ofNat 99, OfNat.ofNat 108, OfNat.ofNat 97, OfNat.ofNat 115, OfNat.ofNat 115] }, upd := [none], new := [] }) (Tree.ite (!inB c.q.2 0 255) (Tree.leaf { v := V.str { data := #[OfNat.ofNat 97, OfNat.ofNat 99, OfNat.ofNat 99, OfNat.ofNat 117, OfNat.ofNat 114, OfNat.ofNat 97, OfNat.ofNat 99, OfNat.ofNat 121] }, upd := [none], new := [] }) (Tree.ite (!inB c.q.3 0 65535) (Tree.leaf { v := V.str { data := #[OfNat.ofNat 118, OfNat.ofNat 97, OfNat.ofNat 114, OfNat.ofNat 105, OfNat.ofNat 97, OfNat.ofNat 110, OfNat.ofNat 99, OfNat.ofNat 101] }, upd := [none], new := [] }) (Tree.ite (!inB c.6 0 1000000) (Tree.leaf { v := V.str { data := #[OfNat.ofNat 112, OfNat.ofNat 112, OfNat.ofNat 98] }, upd := [none], new := [] }) (Tree.ite (decide (n = rs.length) && decide (n ≤ 100000000000000)) (Tree.ite (!okP n (pots rs)) (Tree.leaf { v := V.str { data := #[OfNat.ofNat 112, OfNat.ofNat 111, OfNat.ofNat 114, OfNat.ofNat 116] }, upd := [none], new := [] }) (Tree.leaf { v := V.str { data := #[] }, upd := [none], new := [] })) Tree.fail))))) (Tree.ite (!inB c.q.2 0 255) (Tree.leaf { v := V.str { data := #[OfNat.ofNat 97, OfNat.ofNat 99, OfNat.ofNat 99, OfNat.ofNat 117, OfNat.ofNat 114, OfNat.ofNat 97, OfNat.ofNat 99, OfNat.ofNat 121] }, upd := [none], new := [] }) (Tree.ite (!inB c.q.3 0 65535) (Tree.leaf { v := V.str { data := #[OfNat.ofNat 118, OfNat.ofNat 97, OfNat.ofNat 114, OfNat.ofNat 105, OfNat.ofNat 97, OfNat.ofNat 110, OfNat.ofNat 99, OfNat.ofNat 101] }, upd := [none], new := [] }) (Tree.ite (!inB c.6 0 1000000) (Tree.leaf { v := V.str { data := #[OfNat.ofNat 112, OfNat.ofNat 112, OfNat.ofNat 98] }, upd := [none], new := [] }) (Tree.ite (decide (n = rs.length) && decide (n ≤ 100000000000000)) (Tree.ite (!okP n (pots rs)) (Tree.leaf { v := V.str { data := #[OfNat.ofNat 112, OfNat.ofNat 111, OfNat.ofNat 114, OfNat.ofNat 116] }, upd := [none], new := [] }) (Tree.leaf { v := V.str { data := #[] }, upd := [none], new := [] })) Tree.fail))))))))))) from by kernel_rfl]
        simp only [denN_ite, denN_leaf, denN_fail, decide_eq_true h1, decide_eq_true h2]
        unfold chkW
        rw [← okP_eq, show (c.q.cl != 255) = !(c.q.cl == 255) from rfl]
        generalize Ck.eqB c.id Ck.zero = x1
        generalize inB c.dom 0 127 = x2
        generalize inB c.p1 0 255 = x3
        generalize inB c.p2 0 255 = x4
        generalize inB c.q.cl 0 255 = x5
        generalize inB c.q.ac 0 255 = x7
        generalize inB c.q.va 0 65535 = x8
        generalize inB c.ppb 0 1000000 = x9
        generalize okP n (pots rs) = x10
        generalize (c.q.cl == 255) = y
        generalize c.sl = z
        cases x1 with
        | true => rfl
        | false =>
          cases x2 with
          | false => rfl
          | true =>
            cases x3 with
            | false => rfl
            | true =>
              cases x4 with
              | false => rfl
              | true =>
                cases x5 with
                | false => rfl
                | true =>
                  (cases y <;> cases z <;> first | rfl | (cases x7 <;> first | rfl | (cases x8 <;> first | rfl | (cases x9 <;> first | rfl | (cases x10 <;> rfl)))))
      · simp [den_fail] at h
    · simp [den_fail] at h
  · simp [den_fail] at h
end Go.Proofs.YtkgbphheppfnaaaDoor

set_option maxRecDepth 100000
set_option linter.unusedSimpArgs false
set_option linter.unusedVariables false
namespace Go.Proofs.YtkgbphheppfnaaaDoor
open Go.Rx
def itoL (n : Int) : List Int := numsOf (itoaS n)
theorem itoL_eq (n : Int) : itoaS n = bytesOf (itoL n) := (bytesOf_nums _).symm
def inI (n : Int) : Bool := decide (-9223372036854775808 ≤ n) && decide (n ≤ 9223372036854775807)
theorem itoL_len {n : Int} (h : inI n = true) : (itoL n).length ≤ 21 := by
  simp only [inI, Bool.and_eq_true, decide_eq_true_eq] at h
  unfold itoL
  rw [nums_len]
  exact Lib.itoa_length_le n h.1 h.2
def lineW : List Int → List Int
  | [] => []
  | n :: xs => (32 :: itoL n) ++ lineW xs
theorem lineW_len : ∀ xs : List Int, xs.all inI = true → (lineW xs).length ≤ 22 * xs.length
  | [], _ => Nat.le_refl _
  | n :: xs, h => by
    simp only [List.all_cons, Bool.and_eq_true] at h
    have h1 := itoL_len h.1
    have h2 := lineW_len xs h.2
    simp only [lineW, List.length_append, List.length_cons]; omega
abbrev liG : List (Nat × Rx.Spec) := [(41, itoS)]
theorem liG_ok : GammaOK P liG := .cons ito_ok (.nil P)
theorem li_round (w : ByteArray) (n : Nat) (c : Option Nat) (N i : Int) (xs : List Int) : (evRound P (specsOf liG) (loopsOf []) 21 [0, 7, 8, 9] [0] (loopAt Tryd.f32 0) [.str w, .sl 0 0 0 1 n c, .int .i64 N, .int .i64 i] [.ints .i64 xs]).den = Tree.den (Tree.ite (decide (i < N)) (Tree.ite (decide (0 ≤ i) && decide (i < (↑n : Int))) (Tree.ite (decide (0 + i.toNat + 1 ≤ xs.length)) (Tree.ite (decide (-9223372036854775808 ≤ xs.getD (0 + i.toNat + 0) 0) && decide (xs.getD (0 + i.toNat + 0) 0 ≤ 9223372036854775807)) (Tree.ite (decide (1 + (itoaS (xs.getD (0 + i.toNat + 0) 0)).size ≤ 9223372036854775807)) (Tree.ite (decide (w.size + (({ data := #[OfNat.ofNat 32] } : ByteArray) ++ itoaS (xs.getD (0 + i.toNat + 0) 0)).size ≤ 9223372036854775807)) (Tree.leaf { e := Ex.nrm, vs := [V.str (w ++ (({ data := #[OfNat.ofNat 32] } : ByteArray) ++ itoaS (xs.getD (0 + i.toNat + 0) 0))), V.sl 0 0 0 1 n c, V.int IntKind.i64 N, V.int IntKind.i64 (IntKind.i64.wrap (i + 1))], upd := [none], new := [] }) Tree.fail) Tree.fail) Tree.fail) Tree.fail) Tree.fail) (Tree.leaf { e := Ex.exit 0, vs := [V.str w], upd := [none], new := [] })) := by
  kernel_rfl
theorem app_nil (w : ByteArray) : w ++ bytesOf [] = w := nums_inj (by rw [nums_append]; simp [bytesOf, numsOf])
theorem li_all {n : Nat} {c : Option Nat} {xs : List Int} (hn : n = xs.length) (hn2 : n ≤ 1000000) : ∀ (rest : List Int) (k : Nat) (w : ByteArray), xs.drop k = rest → k + rest.length = n → rest.all inI = true → w.size + 22 * rest.length ≤ 100000000 →
    (loopN P (specsOf liG) (loopsOf []) 21 [0, 7, 8, 9] [0] (loopAt Tryd.f32 0) (rest.length + 1) [.str w, .sl 0 0 0 1 n c, .int .i64 n, .int .i64 k] [.ints .i64 xs]).den = some ⟨.exit 0, [.str (w ++ bytesOf (lineW rest))], [none], []⟩ := by
  intro rest
  induction rest with
  | nil =>
    intro k w hr hk _ _
    have hx := li_round w n c n k xs
    rw [decide_eq_false (show ¬ (k : Int) < (n : Int) by simp at hk; omega)] at hx
    rw [lineW, app_nil]
    exact loopN_end hx (by show Ex.exit 0 ≠ Ex.nrm; decide)
  | cons x rest ih =>
    intro k w hr hk hall hsz
    simp only [List.length_cons] at hk hsz
    simp only [List.all_cons, Bool.and_eq_true] at hall
    obtain ⟨hx0, hall⟩ := hall
    have hx : xs.getD k 0 = x := by
      have := congrArg (fun l => l.getD 0 0) hr
      simpa [List.getD_eq_getElem?_getD] using this
    have hd : xs.drop (k + 1) = rest := by rw [← List.drop_drop, hr]; rfl
    have st := li_round w n c n k xs
    have w6 : IntKind.i64.wrap ((k : Int) + 1) = ((k + 1 : Nat) : Int) := by rw [wrap64_id (by omega) (by omega)]; omega
    have hl := itoL_len hx0
    have hsi : (itoaS x).size = (itoL x).length := by rw [itoL_eq, bytesOf_size]
    have e32 : (⟨#[OfNat.ofNat 32]⟩ : ByteArray) ++ itoaS x = bytesOf (32 :: itoL x) := by
      rw [show (⟨#[OfNat.ofNat 32]⟩ : ByteArray) = bytesOf [32] from rfl, itoL_eq, bytesOf_append]; rfl
    have hin : (decide (-9223372036854775808 ≤ x) && decide (x ≤ 9223372036854775807)) = true := hx0
    simp only [Nat.zero_add, Nat.add_zero, Int.toNat_natCast, hx, w6, e32, hin, hsi, bytesOf_size, List.length_cons] at st
    rw [decide_eq_true (show (k : Int) < (n : Int) by omega), decide_eq_true (show (0 : Int) ≤ k by omega), decide_eq_true (show k + 1 ≤ xs.length by omega), decide_eq_true (show 1 + (itoL x).length ≤ 9223372036854775807 by omega), decide_eq_true (show w.size + ((itoL x).length + 1) ≤ 9223372036854775807 by omega)] at st
    have ih' := ih (k + 1) (w ++ bytesOf (32 :: itoL x)) hd (by omega) hall (by rw [ByteArray.size_append, bytesOf_size, List.length_cons]; omega)
    rw [show w ++ bytesOf (lineW (x :: rest)) = (w ++ bytesOf (32 :: itoL x)) ++ bytesOf (lineW rest) by rw [ByteArray.append_assoc, bytesOf_append]; rfl]
    refine loopN_step st rfl (vals' := [.str (w ++ bytesOf (32 :: itoL x)), .sl 0 0 0 1 n c, .int .i64 n, .int .i64 ((k + 1 : Nat) : Int)]) (bs' := [.ints .i64 xs]) (by kernel_rfl) (by kernel_rfl) (by kernel_rfl) ih' ?_
    (show (seqAfter _ _ _).den = some _; kernel_rfl)
def liF (vals : List V) (bs : List Blk) : Tree LRes := match vals, bs with
  | [.str w, .sl 0 0 0 1 n c, .int .i64 N, .int .i64 i], [.ints .i64 xs] =>
    .need (decide (n = xs.length) && decide (N = n) && decide (i = 0) && decide (n ≤ 1000) && decide (w.size ≤ 1000) && xs.all inI) (.leaf ⟨.exit 0, [.str (w ++ bytesOf (lineW xs))], [none], []⟩)
  | _, _ => .fail
def liL : LSpec := ⟨21, [0, 7, 8, 9], [0], liF⟩
theorem li_loop : LoopOK P (loopAt Tryd.f32 0) liL := by
  refine loop_ok liG_ok Go.Proofs.YtkgbphheppfnaaaDoor.hm (Λ := loopsOf []) (LoopsOK.nil (by kernel_rfl)) _ ?_
  intro vals bs r h
  simp only [liL, liF] at h
  split at h
  · rename_i w n c N i xs
    rw [den_need, denLf] at h
    simp only [Bool.and_eq_true, decide_eq_true_eq] at h
    obtain ⟨⟨⟨⟨⟨⟨h1, rfl⟩, rfl⟩, h3⟩, h4⟩, h5⟩, h⟩ := h
    have := li_all (c := c) h1 (by omega) xs 0 w rfl (by omega) h5 (by omega)
    exact ⟨xs.length + 1, this.trans h⟩
  · simp [den_fail] at h
def liS : Rx.Spec := fun a b => match a, b with
  | [.str w, .sl 0 0 0 1 n c], [.ints .i64 xs] => .need (decide (n = xs.length) && decide (n ≤ 1000) && decide (w.size ≤ 1000) && xs.all inI) (.leaf ⟨.str (w ++ bytesOf (lineW xs ++ [10])), [none], []⟩)
  | [.str w, .nils], [] => .need (decide (w.size ≤ 1000)) (.leaf ⟨.str (w ++ bytesOf [10]), [], []⟩)
  | _, _ => .fail
theorem li_ok : SpecOK P 32 liS := by
  refine specOK_fast liG_ok hm (Λ := loopsOf [(2, liL)]) Tryd.func32 (by kernel_rfl) (LoopsOK.one (by kernel_rfl) li_loop) ?_
  intro args bs r h
  unfold liS at h
  split at h
  · rename_i w n c xs
    rw [den_need, denLf] at h
    simp only [Bool.and_eq_true, decide_eq_true_eq] at h
    obtain ⟨⟨⟨⟨h1, h2⟩, h3⟩, h4⟩, h⟩ := h
    cases h
    rw [show (fFn P (specsOf liG) (loopsOf [(2, liL)]) Tryd.f32 [.str w, .sl 0 0 0 1 n c] [.ints .i64 xs]).denN = Tree.denN (Tree.ite (decide (n = xs.length) && decide ((↑n : Int) = (↑n : Int)) && true && decide (n ≤ 1000) && decide (w.size ≤ 1000) && xs.all inI) (Tree.ite (decide ((w ++ bytesOf (lineW xs)).size + 1 ≤ 9223372036854775807)) (Tree.leaf { v := V.str (w ++ bytesOf (lineW xs) ++ ({ data := #[OfNat.ofNat 10] } : ByteArray)), upd := [none], new := [] }) Tree.fail) Tree.fail) from by kernel_rfl]
    have hl := lineW_len xs h4
    simp only [denN_ite, denN_leaf, denN_fail, decide_eq_true h1, decide_eq_true h2, decide_eq_true h3, h4, decide_true]
    rw [ByteArray.size_append, bytesOf_size, decide_eq_true (show w.size + (lineW xs).length + 1 ≤ 9223372036854775807 by omega)]
    rw [show (⟨#[OfNat.ofNat 10]⟩ : ByteArray) = bytesOf [10] from rfl, ByteArray.append_assoc, bytesOf_append]
    rfl
  · rename_i w
    rw [den_need, denLf] at h
    simp only [decide_eq_true_eq] at h
    obtain ⟨h3, h⟩ := h
    cases h
    rw [show (fFn P (specsOf liG) (loopsOf [(2, liL)]) Tryd.f32 [.str w, .nils] []).denN = Tree.denN (Tree.ite (true && decide (w.size ≤ 1000) && true) (Tree.ite (decide ((w ++ bytesOf (lineW [])).size + 1 ≤ 9223372036854775807)) (Tree.leaf { v := V.str (w ++ bytesOf (lineW []) ++ ({ data := #[OfNat.ofNat 10] } : ByteArray)), upd := [], new := [] }) Tree.fail) Tree.fail) from by kernel_rfl]
    have e0 : bytesOf (lineW []) = bytesOf [] := rfl
    rw [e0, app_nil]
    simp only [denN_ite, denN_leaf, denN_fail, decide_eq_true h3, decide_eq_true (show w.size + 1 ≤ 9223372036854775807 by omega)]
    rfl
  · simp [den_fail] at h
end Go.Proofs.YtkgbphheppfnaaaDoor

set_option maxRecDepth 100000
set_option linter.unusedSimpArgs false
set_option linter.unusedVariables false
namespace Go.Proofs.YtkgbphheppfnaaaDoor
open Go.Rx
theorem dec_u8 (u : Nat) (h : u < 10) : ((UInt8.ofNat (48 + u)).toNat : Int) = 48 + u := by
  rw [UInt8.toNat_ofNat']; omega
theorem nums_list (l : List UInt8) : numsOf ⟨l.toArray⟩ = l.map fun b => (b.toNat : Int) := by simp [numsOf]
def decL (u : Nat) : List Int := (Lib.decDigits u).map fun b => (b.toNat : Int)
theorem decL1 (u : Nat) (h : u < 10) : decL u = [48 + (u : Int)] := by
  unfold decL; rw [Lib.decDigits, dif_pos h]; simp only [List.map_cons, List.map_nil, dec_u8 u h]
theorem decLS (u : Nat) (h : ¬ u < 10) : decL u = decL (u / 10) ++ decL (u % 10) := by
  unfold decL; rw [Lib.decDigits, dif_neg h]
  simp only [List.map_append, List.map_cons, List.map_nil, dec_u8 (u % 10) (by omega)]
  have := decL1 (u % 10) (by omega)
  unfold decL at this
  rw [this]
theorem itoL_pos {n : Int} (h : 0 ≤ n) : itoL n = decL n.toNat := by
  unfold itoL itoaS decL
  rw [nums_list]
  conv => lhs; rw [show n = ((n.toNat : Nat) : Int) by omega, Lib.itoa_nonneg]
theorem itoL_neg {n : Int} (h : n < 0) : itoL n = 45 :: decL (-n).toNat := by
  unfold itoL itoaS decL
  rw [nums_list]
  conv => lhs; rw [show n = -(((-n).toNat : Nat) : Int) by omega, Lib.itoa_neg _ (by omega)]
  rfl
theorem decL_len (u : Nat) (h : u < 18446744073709551616) : (decL u).length ≤ 20 := by
  unfold decL
  rw [List.length_map, Lib.decDigits_length]
  exact Lib.nDigits_le20 u h
theorem pow10 (K : Nat) : (10 : Int) ≤ 10 ^ (K + 1) ∧ (10 : Int) ^ (K + 1 + 1) = 10 ^ (K + 1) * 10 := by
  refine ⟨?_, Int.pow_succ _ _⟩
  rw [Int.pow_succ]
  have : (0 : Int) < 10 ^ K := Int.pow_pos (by decide)
  omega
def dgS (K : Nat) : Rx.Spec := fun a b => match a, b with
  | [.int .i64 n], [] => .need (decide (0 ≤ n) && decide (n < 10 ^ (K + 1)) && decide (n ≤ 9223372036854775807)) (.leaf ⟨.str (bytesOf (decL n.toNat)), [], []⟩)
  | _, _ => .fail
def beS (K : Nat) : Rx.Spec := fun a b => match a, b with
  | [.int .i64 n], [] => .need (decide (n < 0) && decide (-(10 ^ (K + 1)) < n) && decide (-9223372036854775808 ≤ n)) (.leaf ⟨.str (bytesOf (decL (-n).toNat)), [], []⟩)
  | _, _ => .fail
theorem one_digit {n : Int} (h0 : 0 ≤ n) (h1 : n < 10) : bytesOf (List.take 1 (List.drop 0 [IntKind.u8.wrap (IntKind.i64.wrap (48 + n))])) = bytesOf (decL n.toNat) := by
  rw [decL1 _ (by omega), wrap64_id (by omega) (by omega), IntKind.wrap_u8, show (48 + n) % 256 = 48 + ((n.toNat : Nat) : Int) by omega]; rfl
theorem tdiv10 {n : Int} (h : n < 0) : n.tdiv 10 = -((-n) / 10) ∧ n.tmod 10 = -((-n) % 10) := by
  have h1 : (-n).tdiv 10 = (-n) / 10 := Int.tdiv_eq_ediv_of_nonneg (by omega)
  have h2 : (-n).tmod 10 = (-n) % 10 := Int.tmod_eq_emod_of_nonneg (by omega)
  rw [Int.neg_tdiv] at h1
  rw [Int.neg_tmod] at h2
  omega
theorem be_ok0 (K : Nat) (hd : SpecOK P 34 (dgS K)) (h0 : K = 0) : SpecOK P 43 (beS K) := by
  subst h0
  refine specOK_fast (l := [(34, dgS 0)]) (.cons hd (.nil P)) hm (Λ := loopsOf []) Tryd.func43 (by kernel_rfl) (LoopsOK.nil (by kernel_rfl)) ?_
  intro args bs r h
  unfold beS at h
  split at h
  · rename_i n
    rw [den_need, denLf] at h
    simp only [Bool.and_eq_true, decide_eq_true_eq] at h
    obtain ⟨⟨⟨h1, h2⟩, h3⟩, h⟩ := h
    cases h
    rw [show (fFn P (specsOf [(34, dgS 0)]) (loopsOf []) Tryd.f43 [.int .i64 n] []).denN = Tree.denN (Tree.ite (decide (n > -10)) (Tree.ite (decide (0 ≤ IntKind.i64.wrap (0 - n)) && decide (IntKind.i64.wrap (0 - n) < 10) && decide (IntKind.i64.wrap (0 - n) ≤ 9223372036854775807)) (Tree.leaf { v := V.str (bytesOf (decL (IntKind.i64.wrap (0 - n)).toNat)), upd := [], new := [] }) Tree.fail) Tree.fail) from by kernel_rfl]
    have h2' : -10 < n := by simpa using h2
    simp only [denN_ite, denN_leaf, denN_fail, Int.zero_sub]
    rw [wrap64_id (n := -n) (by omega) (by omega), decide_eq_true (show n > -10 by omega), decide_eq_true (show 0 ≤ -n by omega), decide_eq_true (show -n < 10 by omega), decide_eq_true (show -n ≤ 9223372036854775807 by omega)]
    rfl
  · simp [den_fail] at h
theorem be_okS (K : Nat) (hd : SpecOK P 34 (dgS K)) (hb : SpecOK P 43 (beS K)) : SpecOK P 43 (beS (K + 1)) := by
  refine specOK_fast (l := [(34, dgS K), (43, beS K)]) (.cons hd (.cons hb (.nil P))) hm (Λ := loopsOf []) Tryd.func43 (by kernel_rfl) (LoopsOK.nil (by kernel_rfl)) ?_
  intro args bs r h
  unfold beS at h
  split at h
  · rename_i n
    rw [den_need, denLf] at h
    simp only [Bool.and_eq_true, decide_eq_true_eq] at h
    obtain ⟨⟨⟨h1, h2⟩, h3⟩, h⟩ := h
    cases h
    rw [show (fFn P (specsOf [(34, dgS K), (43, beS K)]) (loopsOf []) Tryd.f43 [.int .i64 n] []).denN = Tree.denN (Tree.ite (decide (n > -10)) (Tree.ite (decide (0 ≤ IntKind.i64.wrap (0 - n)) && decide (IntKind.i64.wrap (0 - n) < 10 ^ (K + 1)) && decide (IntKind.i64.wrap (0 - n) ≤ 9223372036854775807)) (Tree.leaf { v := V.str (bytesOf (decL (IntKind.i64.wrap (0 - n)).toNat)), upd := [], new := [] }) Tree.fail) (Tree.ite (decide (IntKind.i64.wrap (n.tdiv 10) < 0) && decide (-10 ^ (K + 1) < IntKind.i64.wrap (n.tdiv 10)) && decide (-9223372036854775808 ≤ IntKind.i64.wrap (n.tdiv 10))) (Tree.ite (decide (0 ≤ IntKind.i64.wrap (0 - n.tmod 10)) && decide (IntKind.i64.wrap (0 - n.tmod 10) < 10 ^ (K + 1)) && decide (IntKind.i64.wrap (0 - n.tmod 10) ≤ 9223372036854775807)) (Tree.ite (decide ((bytesOf (decL (-IntKind.i64.wrap (n.tdiv 10)).toNat)).size + (bytesOf (decL (IntKind.i64.wrap (0 - n.tmod 10)).toNat)).size ≤ 9223372036854775807)) (Tree.leaf { v := V.str (bytesOf (decL (-IntKind.i64.wrap (n.tdiv 10)).toNat) ++ bytesOf (decL (IntKind.i64.wrap (0 - n.tmod 10)).toNat)), upd := [], new := [] }) Tree.fail) Tree.fail) Tree.fail)) from by kernel_rfl]
    obtain ⟨p1, p2⟩ := pow10 K
    rw [p2] at h2
    obtain ⟨t1, t2⟩ := tdiv10 h1
    simp only [denN_ite, denN_leaf, denN_fail, Int.zero_sub, t1, t2, Int.neg_neg]
    generalize (10 : Int) ^ (K + 1) = p at *
    by_cases hs : n > -10
    · rw [wrap64_id (n := -n) (by omega) (by omega), decide_eq_true hs, decide_eq_true (show 0 ≤ -n by omega), decide_eq_true (show -n < p by omega), decide_eq_true (show -n ≤ 9223372036854775807 by omega)]
      rfl
    · rw [wrap64_id (n := -(-n / 10)) (by omega) (by omega), wrap64_id (n := -n % 10) (by omega) (by omega), decide_eq_false hs]
      rw [decide_eq_true (show -(-n / 10) < 0 by omega), decide_eq_true (show -p < -(-n / 10) by omega), decide_eq_true (show -9223372036854775808 ≤ -(-n / 10) by omega), decide_eq_true (show 0 ≤ -n % 10 by omega), decide_eq_true (show -n % 10 < p by omega), decide_eq_true (show -n % 10 ≤ 9223372036854775807 by omega)]
      have l1 := decL_len (- -(-n / 10)).toNat (by omega)
      have l2 := decL_len (-n % 10).toNat (by omega)
      rw [bytesOf_size, bytesOf_size, decide_eq_true (show (decL (- -(-n / 10)).toNat).length + (decL (-n % 10).toNat).length ≤ 9223372036854775807 by omega), bytesOf_append]
      rw [decLS (-n).toNat (by omega), show (-n).toNat / 10 = (- -(-n / 10)).toNat by omega, show (-n).toNat % 10 = (-n % 10).toNat by omega]
      rfl
  · simp [den_fail] at h
theorem dg_ok0 : SpecOK P 34 (dgS 0) := by
  refine specOK_fast (GammaOK.nil P) hm (Λ := loopsOf []) Tryd.func34 (by kernel_rfl) (LoopsOK.nil (by kernel_rfl)) ?_
  intro args bs r h
  unfold dgS at h
  split at h
  · rename_i n
    rw [den_need, denLf] at h
    simp only [Bool.and_eq_true, decide_eq_true_eq] at h
    obtain ⟨⟨⟨h1, h2⟩, h3⟩, h⟩ := h
    cases h
    rw [show (fFn P (specsOf []) (loopsOf []) Tryd.f34 [.int .i64 n] []).denN = Tree.denN (Tree.ite (decide (n < 0)) Tree.fail (Tree.ite (decide (n < 10)) (Tree.leaf { v := V.str (bytesOf (List.take 1 (List.drop 0 [IntKind.u8.wrap (IntKind.i64.wrap (48 + n))]))), upd := [], new := [] }) Tree.fail)) from by kernel_rfl]
    have h2' : n < 10 := by simpa using h2
    simp only [denN_ite, denN_leaf, denN_fail]
    rw [one_digit h1 h2', decide_eq_false (show ¬ n < 0 by omega), decide_eq_true h2']
    rfl
  · simp [den_fail] at h
theorem dg_okS (K : Nat) (hd : SpecOK P 34 (dgS K)) : SpecOK P 34 (dgS (K + 1)) := by
  refine specOK_fast (l := [(34, dgS K)]) (.cons hd (.nil P)) hm (Λ := loopsOf []) Tryd.func34 (by kernel_rfl) (LoopsOK.nil (by kernel_rfl)) ?_
  intro args bs r h
  unfold dgS at h
  split at h
  · rename_i n
    rw [den_need, denLf] at h
    simp only [Bool.and_eq_true, decide_eq_true_eq] at h
    obtain ⟨⟨⟨h1, h2⟩, h3⟩, h⟩ := h
    cases h
    rw [show (fFn P (specsOf [(34, dgS K)]) (loopsOf []) Tryd.f34 [.int .i64 n] []).denN = Tree.denN (Tree.ite (decide (n < 0)) Tree.fail (Tree.ite (decide (n < 10)) (Tree.leaf { v := V.str (bytesOf (List.take 1 (List.drop 0 [IntKind.u8.wrap (IntKind.i64.wrap (48 + n))]))), upd := [], new := [] }) (Tree.ite (decide (0 ≤ IntKind.i64.wrap (n.tdiv 10)) && decide (IntKind.i64.wrap (n.tdiv 10) < 10 ^ (K + 1)) && decide (IntKind.i64.wrap (n.tdiv 10) ≤ 9223372036854775807)) (Tree.ite (decide (0 ≤ n.tmod 10) && decide (n.tmod 10 < 10 ^ (K + 1)) && decide (n.tmod 10 ≤ 9223372036854775807)) (Tree.ite (decide ((bytesOf (decL (IntKind.i64.wrap (n.tdiv 10)).toNat)).size + (bytesOf (decL (n.tmod 10).toNat)).size ≤ 9223372036854775807)) (Tree.leaf { v := V.str (bytesOf (decL (IntKind.i64.wrap (n.tdiv 10)).toNat) ++ bytesOf (decL (n.tmod 10).toNat)), upd := [], new := [] }) Tree.fail) Tree.fail) Tree.fail))) from by kernel_rfl]
    obtain ⟨p1, p2⟩ := pow10 K
    rw [p2] at h2
    simp only [denN_ite, denN_leaf, denN_fail]
    generalize (10 : Int) ^ (K + 1) = p at *
    rw [decide_eq_false (show ¬ n < 0 by omega)]
    by_cases hs : n < 10
    · rw [one_digit h1 hs, decide_eq_true hs]; rfl
    · rw [Int.tdiv_eq_ediv_of_nonneg (by omega), Int.tmod_eq_emod_of_nonneg (by omega), wrap64_id (n := n / 10) (by omega) (by omega), decide_eq_false hs]
      rw [decide_eq_true (show 0 ≤ n / 10 by omega), decide_eq_true (show n / 10 < p by omega), decide_eq_true (show n / 10 ≤ 9223372036854775807 by omega), decide_eq_true (show 0 ≤ n % 10 by omega), decide_eq_true (show n % 10 < p by omega), decide_eq_true (show n % 10 ≤ 9223372036854775807 by omega)]
      have l1 := decL_len (n / 10).toNat (by omega)
      have l2 := decL_len (n % 10).toNat (by omega)
      rw [bytesOf_size, bytesOf_size, decide_eq_true (show (decL (n / 10).toNat).length + (decL (n % 10).toNat).length ≤ 9223372036854775807 by omega), bytesOf_append]
      rw [decLS n.toNat (by omega), show n.toNat / 10 = (n / 10).toNat by omega, show n.toNat % 10 = (n % 10).toNat by omega]
      rfl
  · simp [den_fail] at h
theorem dg_ok : ∀ K : Nat, SpecOK P 34 (dgS K)
  | 0 => dg_ok0
  | K + 1 => dg_okS K (dg_ok K)
theorem be_ok : ∀ K : Nat, SpecOK P 43 (beS K)
  | 0 => be_ok0 0 (dg_ok 0) rfl
  | K + 1 => be_okS K (dg_ok K) (be_ok K)
/-- The decimal numeral of any number. -/
def numS : Rx.Spec := fun a b => match a, b with
  | [.int .i64 n], [] => .need (inI n) (.leaf ⟨.str (bytesOf (itoL n)), [], []⟩)
  | _, _ => .fail
theorem num_ok : SpecOK P 34 numS := by
  refine specOK_fast (l := [(34, dgS 18), (43, beS 18)]) (.cons (dg_ok 18) (.cons (be_ok 18) (.nil P))) hm (Λ := loopsOf []) Tryd.func34 (by kernel_rfl) (LoopsOK.nil (by kernel_rfl)) ?_
  intro args bs r h
  unfold numS at h
  split at h
  · rename_i n
    rw [den_need, denLf] at h
    simp only [inI, Bool.and_eq_true, decide_eq_true_eq] at h
    obtain ⟨⟨h1, h3⟩, h⟩ := h
    cases h
    rw [show (fFn P (specsOf [(34, dgS 18), (43, beS 18)]) (loopsOf []) Tryd.f34 [.int .i64 n] []).denN = Tree.denN (Tree.ite (decide (n < 0)) (Tree.ite (decide (n < 0) && decide (-10000000000000000000 < n) && decide (-9223372036854775808 ≤ n)) (Tree.ite (decide (1 + (bytesOf (decL (-n).toNat)).size ≤ 9223372036854775807)) (Tree.leaf { v := V.str (({ data := #[OfNat.ofNat 45] } : ByteArray) ++ bytesOf (decL (-n).toNat)), upd := [], new := [] }) Tree.fail) Tree.fail) (Tree.ite (decide (n < 10)) (Tree.leaf { v := V.str (bytesOf (List.take 1 (List.drop 0 [IntKind.u8.wrap (IntKind.i64.wrap (48 + n))]))), upd := [], new := [] }) (Tree.ite (decide (0 ≤ IntKind.i64.wrap (n.tdiv 10)) && decide (IntKind.i64.wrap (n.tdiv 10) < 10000000000000000000) && decide (IntKind.i64.wrap (n.tdiv 10) ≤ 9223372036854775807)) (Tree.ite (decide (0 ≤ n.tmod 10) && decide (n.tmod 10 < 10000000000000000000) && decide (n.tmod 10 ≤ 9223372036854775807)) (Tree.ite (decide ((bytesOf (decL (IntKind.i64.wrap (n.tdiv 10)).toNat)).size + (bytesOf (decL (n.tmod 10).toNat)).size ≤ 9223372036854775807)) (Tree.leaf { v := V.str (bytesOf (decL (IntKind.i64.wrap (n.tdiv 10)).toNat) ++ bytesOf (decL (n.tmod 10).toNat)), upd := [], new := [] }) Tree.fail) Tree.fail) Tree.fail))) from by kernel_rfl]
    have hp : (10 : Int) ^ (18 + 1) = 10000000000000000000 := by decide
    simp only [denN_ite, denN_leaf, denN_fail, hp]
    by_cases h0 : n < 0
    · have l1 := decL_len (-n).toNat (by omega)
      rw [itoL_neg h0]
      rw [bytesOf_size, decide_eq_true h0, decide_eq_true (show -10000000000000000000 < n by omega), decide_eq_true h1, decide_eq_true (show 1 + (decL (-n).toNat).length ≤ 9223372036854775807 by omega)]
      rw [show (⟨#[OfNat.ofNat 45]⟩ : ByteArray) = bytesOf [45] from rfl, bytesOf_append]
      rfl
    · rw [decide_eq_false h0]
      rw [itoL_pos (by omega)]
      by_cases hs : n < 10
      · rw [one_digit (by omega) hs, decide_eq_true hs]; rfl
      · rw [Int.tdiv_eq_ediv_of_nonneg (by omega), Int.tmod_eq_emod_of_nonneg (by omega), wrap64_id (n := n / 10) (by omega) (by omega), decide_eq_false hs]
        rw [decide_eq_true (show 0 ≤ n / 10 by omega), decide_eq_true (show n / 10 < 10000000000000000000 by omega), decide_eq_true (show n / 10 ≤ 9223372036854775807 by omega), decide_eq_true (show 0 ≤ n % 10 by omega), decide_eq_true (show n % 10 < 10000000000000000000 by omega), decide_eq_true (show n % 10 ≤ 9223372036854775807 by omega)]
        have l1 := decL_len (n / 10).toNat (by omega)
        have l2 := decL_len (n % 10).toNat (by omega)
        simp only [bytesOf_size]
        rw [decide_eq_true (show (decL (n / 10).toNat).length + (decL (n % 10).toNat).length ≤ 9223372036854775807 by omega), bytesOf_append]
        rw [decLS n.toNat (by omega), show n.toNat / 10 = (n / 10).toNat by omega, show n.toNat % 10 = (n % 10).toNat by omega]
        rfl
  · simp [den_fail] at h
end Go.Proofs.YtkgbphheppfnaaaDoor

set_option maxRecDepth 100000
set_option linter.unusedSimpArgs false
set_option linter.unusedVariables false
namespace Go.Proofs.YtkgbphheppfnaaaDoor
open Go.Rx
def hexC : ByteArray := ⟨#[48, 49, 50, 51, 52, 53, 54, 55, 56, 57, 97, 98, 99, 100, 101, 102]⟩
def hexd (n : Int) : Int := if n < 10 then 48 + n else 87 + n
theorem hex_at : ∀ k : Fin 16, sAt hexC k.1 = hexd (k.1 : Int) := by decide +kernel
theorem hex_ex : ∀ k : Fin 16, (hexC.extract k.1 (k.1 + 1)).data = (bytesOf [hexd (k.1 : Int)]).data := by decide +kernel
theorem and15 : ∀ k : Fin 256, bAnd .u8 (k.1 : Int) 15 = (k.1 : Int) % 16 := by decide +kernel
theorem and15' {x : Int} (h0 : 0 ≤ x) (h1 : x ≤ 255) : bAnd .u8 x 15 = x % 16 := by
  have := and15 ⟨x.toNat, by omega⟩
  simp only at this
  rwa [show ((x.toNat : Nat) : Int) = x by omega] at this
theorem hex_at' {n : Int} (h0 : 0 ≤ n) (h1 : n < 16) : sAt hexC n.toNat = hexd n := by
  have := hex_at ⟨n.toNat, by omega⟩
  simp only at this
  rwa [show ((n.toNat : Nat) : Int) = n by omega] at this
theorem hex_ex' {n : Int} (h0 : 0 ≤ n) (h1 : n < 16) : hexC.extract n.toNat (n.toNat + 1) = bytesOf [hexd n] := by
  have := hex_ex ⟨n.toNat, by omega⟩
  simp only at this
  rw [show ((n.toNat : Nat) : Int) = n by omega] at this
  generalize hexC.extract n.toNat (n.toNat + 1) = a at this ⊢
  generalize bytesOf [hexd n] = b at this ⊢
  cases a; cases b; simp only at this; rw [this]
def u8B (n : Int) : Bool := decide (0 ≤ n) && decide (n ≤ 255)
def ckB (c : Ck) : Bool := u8B c.b0 && u8B c.b1 && u8B c.b2 && u8B c.b3 && u8B c.b4 && u8B c.b5 && u8B c.b6 && u8B c.b7
def hex2 (n : Int) : List Int := [hexd (n / 16), hexd (n % 16)]
def ckT (c : Ck) : List Int := hex2 c.b0 ++ hex2 c.b1 ++ hex2 c.b2 ++ hex2 c.b3 ++ hex2 c.b4 ++ hex2 c.b5 ++ hex2 c.b6 ++ hex2 c.b7
def txS : Rx.Spec := fun a b => match a, b with
  | [v], [] => match Ck.of v with
    | some c => .need (ckB c) (.leaf ⟨.str (bytesOf (ckT c)), [], []⟩)
    | none => .fail
  | _, _ => .fail
theorem ckB_iff {c : Ck} : ckB c = true ↔ (0 ≤ c.b0 ∧ c.b0 ≤ 255) ∧ (0 ≤ c.b1 ∧ c.b1 ≤ 255) ∧ (0 ≤ c.b2 ∧ c.b2 ≤ 255) ∧ (0 ≤ c.b3 ∧ c.b3 ≤ 255) ∧ (0 ≤ c.b4 ∧ c.b4 ≤ 255) ∧ (0 ≤ c.b5 ∧ c.b5 ≤ 255) ∧ (0 ≤ c.b6 ∧ c.b6 ≤ 255) ∧ (0 ≤ c.b7 ∧ c.b7 ≤ 255) := by
  simp only [ckB, u8B, Bool.and_eq_true, decide_eq_true_eq, and_assoc]
noncomputable abbrev txL : LSpec := fUnroll P (specsOf []) (loopsOf []) Tryd.f31 (loopAt Tryd.f31 0) 9
theorem tx_loop : LoopOK P (loopAt Tryd.f31 0) txL := fUnroll_ok (GammaOK.nil P) hm (Λ := loopsOf []) (LoopsOK.nil (by kernel_rfl)) _ _
theorem hxa {x : Int} (h : 0 ≤ x ∧ x ≤ 255) : (decide (0 ≤ x.fdiv 16) && decide (x.fdiv 16 < 16)) = true ∧ (true && decide (bAnd .u8 x 15 < 16)) = true ∧ sAt ⟨#[OfNat.ofNat 48, OfNat.ofNat 49, OfNat.ofNat 50, OfNat.ofNat 51, OfNat.ofNat 52, OfNat.ofNat 53, OfNat.ofNat 54, OfNat.ofNat 55, OfNat.ofNat 56, OfNat.ofNat 57, OfNat.ofNat 97, OfNat.ofNat 98, OfNat.ofNat 99, OfNat.ofNat 100, OfNat.ofNat 101, OfNat.ofNat 102]⟩ (x.fdiv 16).toNat = hexd (x / 16) ∧ sAt ⟨#[OfNat.ofNat 48, OfNat.ofNat 49, OfNat.ofNat 50, OfNat.ofNat 51, OfNat.ofNat 52, OfNat.ofNat 53, OfNat.ofNat 54, OfNat.ofNat 55, OfNat.ofNat 56, OfNat.ofNat 57, OfNat.ofNat 97, OfNat.ofNat 98, OfNat.ofNat 99, OfNat.ofNat 100, OfNat.ofNat 101, OfNat.ofNat 102]⟩ (bAnd .u8 x 15).toNat = hexd (x % 16) := by
  rw [and15' h.1 h.2, Int.fdiv_eq_ediv_of_nonneg _ (by decide)]
  refine ⟨?_, ?_, ?_, ?_⟩
  · rw [decide_eq_true (by omega), decide_eq_true (by omega)]; rfl
  · rw [decide_eq_true (by omega)]; rfl
  · exact hex_at' (by omega) (by omega)
  · exact hex_at' (by omega) (by omega)
theorem tx_ok : SpecOK P 31 txS := by
  refine specOK_fast (GammaOK.nil P) hm (Λ := loopsOf [(3, txL)]) Tryd.func31 (by kernel_rfl) (LoopsOK.one (by kernel_rfl) tx_loop) ?_
  intro args bs r h
  unfold txS at h
  split at h
  · split at h
    · rename_i v _ c hc
      rw [Ck.of_eq hc]
      rw [den_need, denLf] at h
      obtain ⟨h1, h⟩ := h
      cases h
      obtain ⟨g0, g1, g2, g3, g4, g5, g6, g7⟩ := ckB_iff.1 h1
      rw [show (fFn P (specsOf []) (loopsOf [(3, txL)]) Tryd.f31 [c.v] []).denN = Tree.denN (Tree.ite (decide (0 ≤ ([c.1, c.2, c.3, c.4, c.5, c.6, c.7, c.8].getD 0 0).fdiv 16) && decide (([c.1, c.2, c.3, c.4, c.5, c.6, c.7, c.8].getD 0 0).fdiv 16 < 16)) (Tree.ite (true && decide (bAnd IntKind.u8 ([c.1, c.2, c.3, c.4, c.5, c.6, c.7, c.8].getD 0 0) 15 < 16)) (Tree.ite (decide (0 ≤ ([c.1, c.2, c.3, c.4, c.5, c.6, c.7, c.8].getD 1 0).fdiv 16) && decide (([c.1, c.2, c.3, c.4, c.5, c.6, c.7, c.8].getD 1 0).fdiv 16 < 16)) (Tree.ite (true && decide (bAnd IntKind.u8 ([c.1, c.2, c.3, c.4, c.5, c.6, c.7, c.8].getD 1 0) 15 < 16)) (Tree.ite (decide (0 ≤ ([c.1, c.2, c.3, c.4, c.5, c.6, c.7, c.8].getD 2 0).fdiv 16) && decide (([c.1, c.2, c.3, c.4, c.5, c.6, c.7, c.8].getD 2 0).fdiv 16 < 16)) (Tree.ite (true && decide (bAnd IntKind.u8 ([c.1, c.2, c.3, c.4, c.5, c.6, c.7, c.8].getD 2 0) 15 < 16)) (Tree.ite (decide (0 ≤ ([c.1, c.2, c.3, c.4, c.5, c.6, c.7, c.8].getD 3 0).fdiv 16) && decide (([c.1, c.2, c.3, c.4, c.5, c.6, c.7, c.8].getD 3 0).fdiv 16 < 16)) (Tree.ite (true && decide (bAnd IntKind.u8 ([c.1, c.2, c.3, c.4, c.5, c.6, c.7, c.8].getD 3 0) 15 < 16)) (Tree.ite (decide (0 ≤ ([c.1, c.2, c.3, c.4, c.5, c.6, c.7, c.8].getD 4 0).fdiv 16) && decide (([c.1, c.2, c.3, c.4, c.5, c.6, c.7, c.8].getD 4 0).fdiv 16 < 16)) (Tree.ite (true && decide (bAnd IntKind.u8 ([c.1, c.2, c.3, c.4, c.5, c.6, c.7, c.8].getD 4 0) 15 < 16)) (Tree.ite (decide (0 ≤ ([c.1, c.2, c.3, c.4, c.5, c.6, c.7, c.8].getD 5 0).fdiv 16) && decide (([c.1, c.2, c.3, c.4, c.5, c.6, c.7, c.8].getD 5 0).fdiv 16 < 16)) (Tree.ite (true && decide (bAnd IntKind.u8 ([c.1, c.2, c.3, c.4, c.5, c.6, c.7, c.8].getD 5 0) 15 < 16)) (Tree.ite (decide (0 ≤ ([c.1, c.2, c.3, c.4, c.5, c.6, c.7, c.8].getD 6 0).fdiv 16) && decide (([c.1, c.2, c.3, c.4, c.5, c.6, c.7, c.8].getD 6 0).fdiv 16 < 16)) (Tree.ite (true && decide (bAnd IntKind.u8 ([c.1, c.2, c.3, c.4, c.5, c.6, c.7, c.8].getD 6 0) 15 < 16)) (Tree.ite (decide (0 ≤ ([c.1, c.2, c.3, c.4, c.5, c.6, c.7, c.8].getD 7 0).fdiv 16) && decide (([c.1, c.2, c.3, c.4, c.5, c.6, c.7, c.8].getD 7 0).fdiv 16 < 16)) (Tree.ite (true && decide (bAnd IntKind.u8 ([c.1, c.2, c.3, c.4, c.5, c.6, c.7, c.8].getD 7 0) 15 < 16)) (Tree.leaf { v := V.str (bytesOf (List.take 16 (List.drop 0 (List.take 14 (List.drop 0 (List.take 12 (List.drop 0 (List.take 10 (List.drop 0 (List.take 8 (List.drop 0 (List.take 6 (List.drop 0 (List.take 4 (List.drop 0 (List.take 2 (List.drop 0 (List.take 0 (List.drop 0 []) ++ List.take 2 (List.drop 0 [sAt { data := #[OfNat.ofNat 48, OfNat.ofNat 49, OfNat.ofNat 50, OfNat.ofNat 51, OfNat.ofNat 52, OfNat.ofNat 53, OfNat.ofNat 54, OfNat.ofNat 55, OfNat.ofNat 56, OfNat.ofNat 57, OfNat.ofNat 97, OfNat.ofNat 98, OfNat.ofNat 99, OfNat.ofNat 100, OfNat.ofNat 101, OfNat.ofNat 102] } (([c.1, c.2, c.3, c.4, c.5, c.6, c.7, c.8].getD 0 0).fdiv 16).toNat, sAt { data := #[OfNat.ofNat 48, OfNat.ofNat 49, OfNat.ofNat 50, OfNat.ofNat 51, OfNat.ofNat 52, OfNat.ofNat 53, OfNat.ofNat 54, OfNat.ofNat 55, OfNat.ofNat 56, OfNat.ofNat 57, OfNat.ofNat 97, OfNat.ofNat 98, OfNat.ofNat 99, OfNat.ofNat 100, OfNat.ofNat 101, OfNat.ofNat 102] } (bAnd IntKind.u8 ([c.1, c.2, c.3, c.4, c.5, c.6, c.7, c.8].getD 0 0) 15).toNat]))) ++ List.take 2 (List.drop 0 [sAt { data := #[OfNat.ofNat 48, OfNat.ofNat 49, OfNat.ofNat 50, OfNat.ofNat 51, OfNat.ofNat 52, OfNat.ofNat 53, OfNat.ofNat 54, OfNat.ofNat 55, OfNat.ofNat 56, OfNat.ofNat 57, OfNat.ofNat 97, OfNat.ofNat 98, OfNat.ofNat 99, OfNat.ofNat 100, OfNat.ofNat 101, OfNat.ofNat 102] } (([c.1, c.2, c.3, c.4, c.5, c.6, c.7, c.8].getD 1 0).fdiv 16).toNat, sAt { data := #[OfNat.ofNat 48, OfNat.ofNat 49, OfNat.ofNat 50, OfNat.ofNat 51, OfNat.ofNat 52, OfNat.ofNat 53, OfNat.ofNat 54, OfNat.ofNat 55, OfNat.ofNat 56, OfNat.ofNat 57, OfNat.ofNat 97, OfNat.ofNat 98, OfNat.ofNat 99, OfNat.ofNat 100, OfNat.ofNat 101, OfNat.ofNat 102] } (bAnd IntKind.u8 ([c.1, c.2, c.3, c.4, c.5, c.6, c.7, c.8].getD 1 0) 15).toNat]))) ++ List.take 2 (List.drop 0 [sAt { data := #[OfNat.ofNat 48, OfNat.ofNat 49, OfNat.ofNat 50, OfNat.ofNat 51, OfNat.ofNat 52, OfNat.ofNat 53, OfNat.ofNat 54, OfNat.ofNat 55, OfNat.ofNat 56, OfNat.ofNat 57, OfNat.ofNat 97, OfNat.ofNat 98, OfNat.ofNat 99, OfNat.ofNat 100, OfNat.ofNat 101, OfNat.ofNat 102] } (([c.1, c.2, c.3, c.4, c.5, c.6, c.7, c.8].getD 2 0).fdiv 16).toNat, sAt { data := #[OfNat.ofNat 48, OfNat.ofNat 49, OfNat.ofNat 50, OfNat.ofNat 51, OfNat.ofNat 52, OfNat.ofNat 53, OfNat.ofNat 54, OfNat.ofNat 55, OfNat.ofNat 56, OfNat.ofNat 57, OfNat.ofNat 97, OfNat.ofNat 98, OfNat.ofNat 99, OfNat.ofNat 100, OfNat.ofNat 101, OfNat.ofNat 102] } (bAnd IntKind.u8 ([c.1, c.2, c.3, c.4, c.5, c.6, c.7, c.8].getD 2 0) 15).toNat]))) ++ List.take 2 (List.drop 0 [sAt { data := #[OfNat.ofNat 48, OfNat.ofNat 49, OfNat.ofNat 50, OfNat.ofNat 51, OfNat.ofNat 52, OfNat.ofNat 53, OfNat.ofNat 54, OfNat.ofNat 55, OfNat.ofNat 56, OfNat.ofNat 57, OfNat.ofNat 97, OfNat.ofNat 98, OfNat.ofNat 99, OfNat.ofNat 100, OfNat.ofNat 101, OfNat.ofNat 102] } (([c.1, c.2, c.3, c.4, c.5, c.6, c.7, c.8].getD 3 0).fdiv 16).toNat, sAt { data := #[OfNat.ofNat 48, OfNat.ofNat 49, OfNat.ofNat 50, OfNat.ofNat 51, OfNat.ofNat 52, OfNat.ofNat 53, OfNat.ofNat 54, OfNat.ofNat 55, OfNat.ofNat 56, OfNat.ofNat 57, OfNat.ofNat 97, OfNat.ofNat 98, OfNat.ofNat 99, OfNat.ofNat 100, OfNat.ofNat 101, OfNat.ofNat 102] } (bAnd IntKind.u8 ([c.1, c.2, c.3, c.4, c.5, c.6, c.7, c.8].getD 3 0) 15).toNat]))) ++ List.take 2 (List.drop 0 [sAt { data := #[OfNat.ofNat 48, OfNat.ofNat 49, OfNat.ofNat 50, OfNat.ofNat 51, OfNat.ofNat 52, OfNat.ofNat 53, OfNat.ofNat 54, OfNat.ofNat 55, OfNat.ofNat 56, OfNat.ofNat 57, OfNat.ofNat 97, OfNat.ofNat 98, OfNat.ofNat 99, OfNat.ofNat 100, OfNat.ofNat 101, OfNat.ofNat 102] } (([c.1, c.2, c.3, c.4, c.5, c.6, c.7, c.8].getD 4 0).fdiv 16).toNat, sAt { data := #[OfNat.ofNat 48, OfNat.ofNat 49, OfNat.ofNat 50, OfNat.ofNat 51, OfNat.ofNat 52, OfNat.ofNat 53, OfNat.ofNat 54, OfNat.ofNat 55, OfNat.ofNat 56, OfNat.ofNat 57, OfNat.ofNat 97, OfNat.ofNat 98, OfNat.ofNat 99, OfNat.ofNat 100, OfNat.ofNat 101, OfNat.ofNat 102] } (bAnd IntKind.u8 ([c.1, c.2, c.3, c.4, c.5, c.6, c.7, c.8].getD 4 0) 15).toNat]))) ++ List.take 2 (List.drop 0 [sAt { data := #[OfNat.ofNat 48, OfNat.ofNat 49, OfNat.ofNat 50, OfNat.ofNat 51, OfNat.ofNat 52, OfNat.ofNat 53, OfNat.ofNat 54, OfNat.ofNat 55, OfNat.ofNat 56, OfNat.ofNat 57, OfNat.ofNat 97, OfNat.ofNat 98, OfNat.ofNat 99, OfNat.ofNat 100, OfNat.ofNat 101, OfNat.ofNat 102] } (([c.1, c.2, c.3, c.4, c.5, c.6, c.7, c.8].getD 5 0).fdiv 16).toNat, sAt { data := #[OfNat.ofNat 48, OfNat.ofNat 49, OfNat.ofNat 50, OfNat.ofNat 51, OfNat.ofNat 52, OfNat.ofNat 53, OfNat.ofNat 54, OfNat.ofNat 55, OfNat.ofNat 56, OfNat.ofNat 57, OfNat.ofNat 97, OfNat.ofNat 98, OfNat.ofNat 99, OfNat.ofNat 100, OfNat.ofNat 101, OfNat.ofNat 102] } (bAnd IntKind.u8 ([c.1, c.2, c.3, c.4, c.5, c.6, c.7, c.8].getD 5 0) 15).toNat]))) ++ List.take 2 (List.drop 0 [sAt { data := #[OfNat.ofNat 48, OfNat.ofNat 49, OfNat.ofNat 50, OfNat.ofNat 51, OfNat.ofNat 52, OfNat.ofNat 53, OfNat.ofNat 54, OfNat.ofNat 55, OfNat.ofNat 56, OfNat.ofNat 57, OfNat.ofNat 97, OfNat.ofNat 98, OfNat.ofNat 99, OfNat.ofNat 100, OfNat.ofNat 101, OfNat.ofNat 102] } (([c.1, c.2, c.3, c.4, c.5, c.6, c.7, c.8].getD 6 0).fdiv 16).toNat, sAt { data := #[OfNat.ofNat 48, OfNat.ofNat 49, OfNat.ofNat 50, OfNat.ofNat 51, OfNat.ofNat 52, OfNat.ofNat 53, OfNat.ofNat 54, OfNat.ofNat 55, OfNat.ofNat 56, OfNat.ofNat 57, OfNat.ofNat 97, OfNat.ofNat 98, OfNat.ofNat 99, OfNat.ofNat 100, OfNat.ofNat 101, OfNat.ofNat 102] } (bAnd IntKind.u8 ([c.1, c.2, c.3, c.4, c.5, c.6, c.7, c.8].getD 6 0) 15).toNat]))) ++ List.take 2 (List.drop 0 [sAt { data := #[OfNat.ofNat 48, OfNat.ofNat 49, OfNat.ofNat 50, OfNat.ofNat 51, OfNat.ofNat 52, OfNat.ofNat 53, OfNat.ofNat 54, OfNat.ofNat 55, OfNat.ofNat 56, OfNat.ofNat 57, OfNat.ofNat 97, OfNat.ofNat 98, OfNat.ofNat 99, OfNat.ofNat 100, OfNat.ofNat 101, OfNat.ofNat 102] } (([c.1, c.2, c.3, c.4, c.5, c.6, c.7, c.8].getD 7 0).fdiv 16).toNat, sAt { data := #[OfNat.ofNat 48, OfNat.ofNat 49, OfNat.ofNat 50, OfNat.ofNat 51, OfNat.ofNat 52, OfNat.ofNat 53, OfNat.ofNat 54, OfNat.ofNat 55, OfNat.ofNat 56, OfNat.ofNat 57, OfNat.ofNat 97, OfNat.ofNat 98, OfNat.ofNat 99, OfNat.ofNat 100, OfNat.ofNat 101, OfNat.ofNat 102] } (bAnd IntKind.u8 ([c.1, c.2, c.3, c.4, c.5, c.6, c.7, c.8].getD 7 0) 15).toNat]))))), upd := [], new := [] }) Tree.fail) Tree.fail) Tree.fail) Tree.fail) Tree.fail) Tree.fail) Tree.fail) Tree.fail) Tree.fail) Tree.fail) Tree.fail) Tree.fail) Tree.fail) Tree.fail) Tree.fail) Tree.fail) from by kernel_rfl]
      obtain ⟨a0, b0, d0, e0⟩ := hxa g0
      obtain ⟨a1, b1, d1, e1⟩ := hxa g1
      obtain ⟨a2, b2, d2, e2⟩ := hxa g2
      obtain ⟨a3, b3, d3, e3⟩ := hxa g3
      obtain ⟨a4, b4, d4, e4⟩ := hxa g4
      obtain ⟨a5, b5, d5, e5⟩ := hxa g5
      obtain ⟨a6, b6, d6, e6⟩ := hxa g6
      obtain ⟨a7, b7, d7, e7⟩ := hxa g7
      simp only [List.getD_cons_zero, List.getD_cons_succ, a0, b0, d0, e0, a1, b1, d1, e1, a2, b2, d2, e2, a3, b3, d3, e3, a4, b4, d4, e4, a5, b5, d5, e5, a6, b6, d6, e6, a7, b7, d7, e7]
      rfl
    · simp [den_fail] at h
  · simp [den_fail] at h
def dtS : Rx.Spec := fun a b => match a, b with
  | [.int .i64 n], [] => .need (decide (0 ≤ n) && decide (n < 16)) (.leaf ⟨.str (bytesOf [hexd n]), [], []⟩)
  | _, _ => .fail
theorem dt_ok : SpecOK P 42 dtS := by
  refine specOK_fast (GammaOK.nil P) hm (Λ := loopsOf []) Tryd.func42 (by kernel_rfl) (LoopsOK.nil (by kernel_rfl)) ?_
  intro args bs r h
  unfold dtS at h
  split at h
  · rename_i n
    rw [den_need, denLf] at h
    simp only [Bool.and_eq_true, decide_eq_true_eq] at h
    obtain ⟨⟨h1, h2⟩, h⟩ := h
    cases h
    rw [show (fFn P (specsOf []) (loopsOf []) Tryd.f42 [.int .i64 n] []).denN = Tree.denN (Tree.ite (decide (0 ≤ n) && decide (n ≤ IntKind.i64.wrap (n + 1)) && decide (IntKind.i64.wrap (n + 1) ≤ 16)) (Tree.leaf { v := V.str (({ data := #[OfNat.ofNat 48, OfNat.ofNat 49, OfNat.ofNat 50, OfNat.ofNat 51, OfNat.ofNat 52, OfNat.ofNat 53, OfNat.ofNat 54, OfNat.ofNat 55, OfNat.ofNat 56, OfNat.ofNat 57, OfNat.ofNat 97, OfNat.ofNat 98, OfNat.ofNat 99, OfNat.ofNat 100, OfNat.ofNat 101, OfNat.ofNat 102] } : ByteArray).extract n.toNat (IntKind.i64.wrap (n + 1)).toNat), upd := [], new := [] }) Tree.fail) from by kernel_rfl]
    simp only [denN_ite, denN_leaf, denN_fail]
    rw [wrap64_id (n := n + 1) (by omega) (by omega), decide_eq_true h1, decide_eq_true (show n ≤ n + 1 by omega), decide_eq_true (show n + 1 ≤ 16 by omega), show (n + 1).toNat = n.toNat + 1 by omega]
    have := hex_ex' h1 h2
    unfold hexC at this
    rw [← this]
    rfl
  · simp [den_fail] at h
abbrev rtG : List (Nat × Rx.Spec) := [(42, dtS)]
theorem rtG_ok : GammaOK P rtG := .cons dt_ok (.nil P)
noncomputable abbrev rtL : LSpec := fUnroll P (specsOf rtG) (loopsOf []) Tryd.f33 (loopAt Tryd.f33 0) 9
theorem rt_loop : LoopOK P (loopAt Tryd.f33 0) rtL := fUnroll_ok rtG_ok hm (Λ := loopsOf []) (LoopsOK.nil (by kernel_rfl)) _ _
theorem hxr {x : Int} (h : 0 ≤ x ∧ x ≤ 255) : (decide (0 ≤ x / 16) && decide (x / 16 < 16)) = true ∧ (decide (0 ≤ x % 16) && decide (x % 16 < 16)) = true ∧ IntKind.i64.wrap ((IntKind.i64.wrap x).tdiv 16) = x / 16 ∧ (IntKind.i64.wrap x).tmod 16 = x % 16 := by
  rw [wrap64_id (n := x) (by omega) (by omega), Int.tdiv_eq_ediv_of_nonneg h.1, Int.tmod_eq_emod_of_nonneg h.1, wrap64_id (n := x / 16) (by omega) (by omega)]
  refine ⟨?_, ?_, rfl, rfl⟩
  · rw [decide_eq_true (by omega), decide_eq_true (by omega)]; rfl
  · rw [decide_eq_true (by omega), decide_eq_true (by omega)]; rfl
theorem rtx_ok : SpecOK P 33 txS := by
  refine specOK_fast rtG_ok hm (Λ := loopsOf [(3, rtL)]) Tryd.func33 (by kernel_rfl) (LoopsOK.one (by kernel_rfl) rt_loop) ?_
  intro args bs r h
  unfold txS at h
  split at h
  · split at h
    · rename_i v _ c hc
      rw [Ck.of_eq hc]
      rw [den_need, denLf] at h
      obtain ⟨h1, h⟩ := h
      cases h
      obtain ⟨g0, g1, g2, g3, g4, g5, g6, g7⟩ := ckB_iff.1 h1
      rw [show (fFn P (specsOf rtG) (loopsOf [(3, rtL)]) Tryd.f33 [c.v] []).denN = Tree.denN (Tree.ite (decide (0 ≤ IntKind.i64.wrap ((IntKind.i64.wrap ([c.1, c.2, c.3, c.4, c.5, c.6, c.7, c.8].getD 0 0)).tdiv 16)) && decide (IntKind.i64.wrap ((IntKind.i64.wrap ([c.1, c.2, c.3, c.4, c.5, c.6, c.7, c.8].getD 0 0)).tdiv 16) < 16)) (Tree.ite (decide (0 ≤ (IntKind.i64.wrap ([c.1, c.2, c.3, c.4, c.5, c.6, c.7, c.8].getD 0 0)).tmod 16) && decide ((IntKind.i64.wrap ([c.1, c.2, c.3, c.4, c.5, c.6, c.7, c.8].getD 0 0)).tmod 16 < 16)) (Tree.ite (decide (0 ≤ IntKind.i64.wrap ((IntKind.i64.wrap ([c.1, c.2, c.3, c.4, c.5, c.6, c.7, c.8].getD 1 0)).tdiv 16)) && decide (IntKind.i64.wrap ((IntKind.i64.wrap ([c.1, c.2, c.3, c.4, c.5, c.6, c.7, c.8].getD 1 0)).tdiv 16) < 16)) (Tree.ite (decide (0 ≤ (IntKind.i64.wrap ([c.1, c.2, c.3, c.4, c.5, c.6, c.7, c.8].getD 1 0)).tmod 16) && decide ((IntKind.i64.wrap ([c.1, c.2, c.3, c.4, c.5, c.6, c.7, c.8].getD 1 0)).tmod 16 < 16)) (Tree.ite (decide (0 ≤ IntKind.i64.wrap ((IntKind.i64.wrap ([c.1, c.2, c.3, c.4, c.5, c.6, c.7, c.8].getD 2 0)).tdiv 16)) && decide (IntKind.i64.wrap ((IntKind.i64.wrap ([c.1, c.2, c.3, c.4, c.5, c.6, c.7, c.8].getD 2 0)).tdiv 16) < 16)) (Tree.ite (decide (0 ≤ (IntKind.i64.wrap ([c.1, c.2, c.3, c.4, c.5, c.6, c.7, c.8].getD 2 0)).tmod 16) && decide ((IntKind.i64.wrap ([c.1, c.2, c.3, c.4, c.5, c.6, c.7, c.8].getD 2 0)).tmod 16 < 16)) (Tree.ite (decide (0 ≤ IntKind.i64.wrap ((IntKind.i64.wrap ([c.1, c.2, c.3, c.4, c.5, c.6, c.7, c.8].getD 3 0)).tdiv 16)) && decide (IntKind.i64.wrap ((IntKind.i64.wrap ([c.1, c.2, c.3, c.4, c.5, c.6, c.7, c.8].getD 3 0)).tdiv 16) < 16)) (Tree.ite (decide (0 ≤ (IntKind.i64.wrap ([c.1, c.2, c.3, c.4, c.5, c.6, c.7, c.8].getD 3 0)).tmod 16) && decide ((IntKind.i64.wrap ([c.1, c.2, c.3, c.4, c.5, c.6, c.7, c.8].getD 3 0)).tmod 16 < 16)) (Tree.ite (decide (0 ≤ IntKind.i64.wrap ((IntKind.i64.wrap ([c.1, c.2, c.3, c.4, c.5, c.6, c.7, c.8].getD 4 0)).tdiv 16)) && decide (IntKind.i64.wrap ((IntKind.i64.wrap ([c.1, c.2, c.3, c.4, c.5, c.6, c.7, c.8].getD 4 0)).tdiv 16) < 16)) (Tree.ite (decide (0 ≤ (IntKind.i64.wrap ([c.1, c.2, c.3, c.4, c.5, c.6, c.7, c.8].getD 4 0)).tmod 16) && decide ((IntKind.i64.wrap ([c.1, c.2, c.3, c.4, c.5, c.6, c.7, c.8].getD 4 0)).tmod 16 < 16)) (Tree.ite (decide (0 ≤ IntKind.i64.wrap ((IntKind.i64.wrap ([c.1, c.2, c.3, c.4, c.5, c.6, c.7, c.8].getD 5 0)).tdiv 16)) && decide (IntKind.i64.wrap ((IntKind.i64.wrap ([c.1, c.2, c.3, c.4, c.5, c.6, c.7, c.8].getD 5 0)).tdiv 16) < 16)) (Tree.ite (decide (0 ≤ (IntKind.i64.wrap ([c.1, c.2, c.3, c.4, c.5, c.6, c.7, c.8].getD 5 0)).tmod 16) && decide ((IntKind.i64.wrap ([c.1, c.2, c.3, c.4, c.5, c.6, c.7, c.8].getD 5 0)).tmod 16 < 16)) (Tree.ite (decide (0 ≤ IntKind.i64.wrap ((IntKind.i64.wrap ([c.1, c.2, c.3, c.4, c.5, c.6, c.7, c.8].getD 6 0)).tdiv 16)) && decide (IntKind.i64.wrap ((IntKind.i64.wrap ([c.1, c.2, c.3, c.4, c.5, c.6, c.7, c.8].getD 6 0)).tdiv 16) < 16)) (Tree.ite (decide (0 ≤ (IntKind.i64.wrap ([c.1, c.2, c.3, c.4, c.5, c.6, c.7, c.8].getD 6 0)).tmod 16) && decide ((IntKind.i64.wrap ([c.1, c.2, c.3, c.4, c.5, c.6, c.7, c.8].getD 6 0)).tmod 16 < 16)) (Tree.ite (decide (0 ≤ IntKind.i64.wrap ((IntKind.i64.wrap ([c.1, c.2, c.3, c.4, c.5, c.6, c.7, c.8].getD 7 0)).tdiv 16)) && decide (IntKind.i64.wrap ((IntKind.i64.wrap ([c.1, c.2, c.3, c.4, c.5, c.6, c.7, c.8].getD 7 0)).tdiv 16) < 16)) (Tree.ite (decide (0 ≤ (IntKind.i64.wrap ([c.1, c.2, c.3, c.4, c.5, c.6, c.7, c.8].getD 7 0)).tmod 16) && decide ((IntKind.i64.wrap ([c.1, c.2, c.3, c.4, c.5, c.6, c.7, c.8].getD 7 0)).tmod 16 < 16)) (Tree.leaf { v := V.str (({ data := #[] } : ByteArray) ++ bytesOf [hexd (IntKind.i64.wrap ((IntKind.i64.wrap ([c.1, c.2, c.3, c.4, c.5, c.6, c.7, c.8].getD 0 0)).tdiv 16))] ++ bytesOf [hexd ((IntKind.i64.wrap ([c.1, c.2, c.3, c.4, c.5, c.6, c.7, c.8].getD 0 0)).tmod 16)] ++ bytesOf [hexd (IntKind.i64.wrap ((IntKind.i64.wrap ([c.1, c.2, c.3, c.4, c.5, c.6, c.7, c.8].getD 1 0)).tdiv 16))] ++ bytesOf [hexd ((IntKind.i64.wrap ([c.1, c.2, c.3, c.4, c.5, c.6, c.7, c.8].getD 1 0)).tmod 16)] ++ bytesOf [hexd (IntKind.i64.wrap ((IntKind.i64.wrap ([c.1, c.2, c.3, c.4, c.5, c.6, c.7, c.8].getD 2 0)).tdiv 16))] ++ bytesOf [hexd ((IntKind.i64.wrap ([c.1, c.2, c.3, c.4, c.5, c.6, c.7, c.8].getD 2 0)).tmod 16)] ++ bytesOf [hexd (IntKind.i64.wrap ((IntKind.i64.wrap ([c.1, c.2, c.3, c.4, c.5, c.6, c.7, c.8].getD 3 0)).tdiv 16))] ++ bytesOf [hexd ((IntKind.i64.wrap ([c.1, c.2, c.3, c.4, c.5, c.6, c.7, c.8].getD 3 0)).tmod 16)] ++ bytesOf [hexd (IntKind.i64.wrap ((IntKind.i64.wrap ([c.1, c.2, c.3, c.4, c.5, c.6, c.7, c.8].getD 4 0)).tdiv 16))] ++ bytesOf [hexd ((IntKind.i64.wrap ([c.1, c.2, c.3, c.4, c.5, c.6, c.7, c.8].getD 4 0)).tmod 16)] ++ bytesOf [hexd (IntKind.i64.wrap ((IntKind.i64.wrap ([c.1, c.2, c.3, c.4, c.5, c.6, c.7, c.8].getD 5 0)).tdiv 16))] ++ bytesOf [hexd ((IntKind.i64.wrap ([c.1, c.2, c.3, c.4, c.5, c.6, c.7, c.8].getD 5 0)).tmod 16)] ++ bytesOf [hexd (IntKind.i64.wrap ((IntKind.i64.wrap ([c.1, c.2, c.3, c.4, c.5, c.6, c.7, c.8].getD 6 0)).tdiv 16))] ++ bytesOf [hexd ((IntKind.i64.wrap ([c.1, c.2, c.3, c.4, c.5, c.6, c.7, c.8].getD 6 0)).tmod 16)] ++ bytesOf [hexd (IntKind.i64.wrap ((IntKind.i64.wrap ([c.1, c.2, c.3, c.4, c.5, c.6, c.7, c.8].getD 7 0)).tdiv 16))] ++ bytesOf [hexd ((IntKind.i64.wrap ([c.1, c.2, c.3, c.4, c.5, c.6, c.7, c.8].getD 7 0)).tmod 16)]), upd := [], new := [] }) Tree.fail) Tree.fail) Tree.fail) Tree.fail) Tree.fail) Tree.fail) Tree.fail) Tree.fail) Tree.fail) Tree.fail) Tree.fail) Tree.fail) Tree.fail) Tree.fail) Tree.fail) Tree.fail) from by kernel_rfl]
      obtain ⟨a0, b0, d0, e0⟩ := hxr g0
      obtain ⟨a1, b1, d1, e1⟩ := hxr g1
      obtain ⟨a2, b2, d2, e2⟩ := hxr g2
      obtain ⟨a3, b3, d3, e3⟩ := hxr g3
      obtain ⟨a4, b4, d4, e4⟩ := hxr g4
      obtain ⟨a5, b5, d5, e5⟩ := hxr g5
      obtain ⟨a6, b6, d6, e6⟩ := hxr g6
      obtain ⟨a7, b7, d7, e7⟩ := hxr g7
      simp only [List.getD_cons_zero, List.getD_cons_succ, a0, b0, d0, e0, a1, b1, d1, e1, a2, b2, d2, e2, a3, b3, d3, e3, a4, b4, d4, e4, a5, b5, d5, e5, a6, b6, d6, e6, a7, b7, d7, e7]
      simp only [show (⟨#[]⟩ : ByteArray) = bytesOf [] from rfl, bytesOf_append]
      rfl
    · simp [den_fail] at h
  · simp [den_fail] at h
theorem ckT_len (c : Ck) : (ckT c).length = 16 := rfl
end Go.Proofs.YtkgbphheppfnaaaDoor

set_option maxRecDepth 100000
set_option linter.unusedSimpArgs false
set_option linter.unusedVariables false
namespace Go.Proofs.YtkgbphheppfnaaaDoor
open Go.Rx
def cClock : List Int := [99, 108, 111, 99, 107, 32]
theorem cClock_k : (⟨#[OfNat.ofNat 99, OfNat.ofNat 108, OfNat.ofNat 111, OfNat.ofNat 99, OfNat.ofNat 107, OfNat.ofNat 32]⟩ : ByteArray) = bytesOf cClock := rfl
def cDomain : List Int := [100, 111, 109, 97, 105, 110]
theorem cDomain_k : (⟨#[OfNat.ofNat 100, OfNat.ofNat 111, OfNat.ofNat 109, OfNat.ofNat 97, OfNat.ofNat 105, OfNat.ofNat 110]⟩ : ByteArray) = bytesOf cDomain := rfl
def cPriority : List Int := [112, 114, 105, 111, 114, 105, 116, 121]
theorem cPriority_k : (⟨#[OfNat.ofNat 112, OfNat.ofNat 114, OfNat.ofNat 105, OfNat.ofNat 111, OfNat.ofNat 114, OfNat.ofNat 105, OfNat.ofNat 116, OfNat.ofNat 121]⟩ : ByteArray) = bytesOf cPriority := rfl
def cClass : List Int := [99, 108, 97, 115, 115]
theorem cClass_k : (⟨#[OfNat.ofNat 99, OfNat.ofNat 108, OfNat.ofNat 97, OfNat.ofNat 115, OfNat.ofNat 115]⟩ : ByteArray) = bytesOf cClass := rfl
def cAccuracy : List Int := [97, 99, 99, 117, 114, 97, 99, 121]
theorem cAccuracy_k : (⟨#[OfNat.ofNat 97, OfNat.ofNat 99, OfNat.ofNat 99, OfNat.ofNat 117, OfNat.ofNat 114, OfNat.ofNat 97, OfNat.ofNat 99, OfNat.ofNat 121]⟩ : ByteArray) = bytesOf cAccuracy := rfl
def cVariance : List Int := [118, 97, 114, 105, 97, 110, 99, 101]
theorem cVariance_k : (⟨#[OfNat.ofNat 118, OfNat.ofNat 97, OfNat.ofNat 114, OfNat.ofNat 105, OfNat.ofNat 97, OfNat.ofNat 110, OfNat.ofNat 99, OfNat.ofNat 101]⟩ : ByteArray) = bytesOf cVariance := rfl
def cPpb : List Int := [112, 112, 98]
theorem cPpb_k : (⟨#[OfNat.ofNat 112, OfNat.ofNat 112, OfNat.ofNat 98]⟩ : ByteArray) = bytesOf cPpb := rfl
def cSlave : List Int := [115, 108, 97, 118, 101]
theorem cSlave_k : (⟨#[OfNat.ofNat 115, OfNat.ofNat 108, OfNat.ofNat 97, OfNat.ofNat 118, OfNat.ofNat 101]⟩ : ByteArray) = bytesOf cSlave := rfl
def cPort : List Int := [112, 111, 114, 116]
theorem cPort_k : (⟨#[OfNat.ofNat 112, OfNat.ofNat 111, OfNat.ofNat 114, OfNat.ofNat 116]⟩ : ByteArray) = bytesOf cPort := rfl
theorem cClock_len : cClock.length = 6 := rfl
theorem cDomain_len : cDomain.length = 6 := rfl
theorem cPriority_len : cPriority.length = 8 := rfl
theorem cClass_len : cClass.length = 5 := rfl
theorem cAccuracy_len : cAccuracy.length = 8 := rfl
theorem cVariance_len : cVariance.length = 8 := rfl
theorem cPpb_len : cPpb.length = 3 := rfl
theorem cSlave_len : cSlave.length = 5 := rfl
theorem cPort_len : cPort.length = 4 := rfl
theorem c10_k : (⟨#[OfNat.ofNat 10]⟩ : ByteArray) = bytesOf [10] := rfl
abbrev prG : List (Nat × Rx.Spec) := [(31, txS), (32, liS)]
theorem prG_ok : GammaOK P prG := .cons tx_ok (.cons li_ok (.nil P))
def potI (x : Pot) : Bool := inI x.ev && inI x.of_ && inI x.ask && inI x.pa.mn && inI x.pa.mx && inI x.pa.gr
def potW (x : Pot) : List Int := [x.ev, x.of_, x.ask, x.pa.mn, x.pa.mx, x.pa.gr]
def prP (x : Pot) : List Int := cPort ++ (lineW (potW x) ++ [10])
def prPs : List Pot → List Int
  | [] => []
  | x :: xs => prP x ++ prPs xs
theorem potI_all {x : Pot} (h : potI x = true) : (potW x).all inI = true := by
  simp only [potI, Bool.and_eq_true] at h
  obtain ⟨⟨⟨⟨⟨h1, h2⟩, h3⟩, h4⟩, h5⟩, h6⟩ := h
  simp only [potW, List.all_cons, List.all_nil, h1, h2, h3, h4, h5, h6]; rfl
theorem prP_len {x : Pot} (h : potI x = true) : (prP x).length ≤ 137 := by
  have := lineW_len (potW x) (potI_all h)
  simp only [prP, List.length_append, cPort_len, List.length_cons, List.length_nil]
  simp only [potW, List.length_cons, List.length_nil] at this
  simp only [potW]
  omega
theorem p_round (s : ByteArray) (n : Nat) (N i : Int) (rs : List (List V)) : (evRound P (specsOf prG) (loopsOf []) 79 [4, 52, 53, 54] [4] (loopAt Tryd.f11 0) [.str s, .sl 0 0 0 6 n none, .int .i64 N, .int .i64 i] [.rows poK rs]).den = Tree.den (Tree.ite (decide (i < N)) (Tree.ite (decide (0 ≤ i) && decide (i < (↑n : Int))) (Tree.ite (decide (0 + i.toNat < rs.length)) (Tree.ite (true && [(V.toInt ((rs.getD (0 + i.toNat) []).getD 0 V.any)), (V.toInt ((rs.getD (0 + i.toNat) []).getD 1 V.any)), (V.toInt ((rs.getD (0 + i.toNat) []).getD 2 V.any)), (V.toInt ((rs.getD (0 + i.toNat) []).getD 3 V.any)), (V.toInt ((rs.getD (0 + i.toNat) []).getD 4 V.any)), (V.toInt ((rs.getD (0 + i.toNat) []).getD 5 V.any))].all inI) (Tree.ite (decide (s.size + (({ data := #[OfNat.ofNat 112, OfNat.ofNat 111, OfNat.ofNat 114, OfNat.ofNat 116] } : ByteArray) ++ bytesOf (lineW [(V.toInt ((rs.getD (0 + i.toNat) []).getD 0 V.any)), (V.toInt ((rs.getD (0 + i.toNat) []).getD 1 V.any)), (V.toInt ((rs.getD (0 + i.toNat) []).getD 2 V.any)), (V.toInt ((rs.getD (0 + i.toNat) []).getD 3 V.any)), (V.toInt ((rs.getD (0 + i.toNat) []).getD 4 V.any)), (V.toInt ((rs.getD (0 + i.toNat) []).getD 5 V.any))] ++ [10])).size ≤ 9223372036854775807)) (Tree.leaf { e := Ex.nrm, vs := [V.str (s ++ (({ data := #[OfNat.ofNat 112, OfNat.ofNat 111, OfNat.ofNat 114, OfNat.ofNat 116] } : ByteArray) ++ bytesOf (lineW [(V.toInt ((rs.getD (0 + i.toNat) []).getD 0 V.any)), (V.toInt ((rs.getD (0 + i.toNat) []).getD 1 V.any)), (V.toInt ((rs.getD (0 + i.toNat) []).getD 2 V.any)), (V.toInt ((rs.getD (0 + i.toNat) []).getD 3 V.any)), (V.toInt ((rs.getD (0 + i.toNat) []).getD 4 V.any)), (V.toInt ((rs.getD (0 + i.toNat) []).getD 5 V.any))] ++ [10]))), V.sl 0 0 0 6 n none, V.int IntKind.i64 N, V.int IntKind.i64 (IntKind.i64.wrap (i + 1))], upd := [none], new := [] }) Tree.fail) Tree.fail) Tree.fail) Tree.fail) (Tree.leaf { e := Ex.exit 0, vs := [V.str s], upd := [none], new := [] })) := by
  kernel_rfl
theorem pN_round (s : ByteArray) (N i : Int) : (evRound P (specsOf prG) (loopsOf []) 79 [4, 52, 53, 54] [4] (loopAt Tryd.f11 0) [.str s, .nils, .int .i64 N, .int .i64 i] []).den = Tree.den (Tree.ite (decide (i < N)) Tree.fail (Tree.leaf { e := Ex.exit 0, vs := [V.str s], upd := [], new := [] })) := by
  kernel_rfl
theorem p_all {n : Nat} {rs : List (List V)} (hn : n = rs.length) (hn2 : n ≤ 1000) : ∀ (rest : List Pot) (k : Nat) (s : ByteArray), (pots rs).drop k = rest → k + rest.length = n → rest.all potI = true → s.size + 137 * rest.length ≤ 100000000 →
    (loopN P (specsOf prG) (loopsOf []) 79 [4, 52, 53, 54] [4] (loopAt Tryd.f11 0) (rest.length + 1) [.str s, .sl 0 0 0 6 n none, .int .i64 n, .int .i64 k] [.rows poK rs]).den = some ⟨.exit 0, [.str (s ++ bytesOf (prPs rest))], [none], []⟩ := by
  intro rest
  induction rest with
  | nil =>
    intro k s hr hk _ _
    have hx := p_round s n n k rs
    rw [decide_eq_false (show ¬ (k : Int) < (n : Int) by simp at hk; omega)] at hx
    rw [prPs, app_nil]
    exact loopN_end hx (by show Ex.exit 0 ≠ Ex.nrm; decide)
  | cons x rest ih =>
    intro k s hr hk hall hsz
    simp only [List.length_cons] at hk hsz
    simp only [List.all_cons, Bool.and_eq_true] at hall
    obtain ⟨hx0, hall⟩ := hall
    obtain ⟨hx, hd⟩ := drop_po (d := potOf []) hr
    rw [pots_get] at hx
    have e0 : V.toInt ((rs.getD k []).getD 0 V.any) = x.ev := by rw [← hx]; rfl
    have e1 : V.toInt ((rs.getD k []).getD 1 V.any) = x.of_ := by rw [← hx]; rfl
    have e2 : V.toInt ((rs.getD k []).getD 2 V.any) = x.ask := by rw [← hx]; rfl
    have e3 : V.toInt ((rs.getD k []).getD 3 V.any) = x.pa.mn := by rw [← hx]; rfl
    have e4 : V.toInt ((rs.getD k []).getD 4 V.any) = x.pa.mx := by rw [← hx]; rfl
    have e5 : V.toInt ((rs.getD k []).getD 5 V.any) = x.pa.gr := by rw [← hx]; rfl
    have st := p_round s n n k rs
    have w6 : IntKind.i64.wrap ((k : Int) + 1) = ((k + 1 : Nat) : Int) := by rw [wrap64_id (by omega) (by omega)]; omega
    have eP : bytesOf cPort ++ bytesOf (lineW [x.ev, x.of_, x.ask, x.pa.mn, x.pa.mx, x.pa.gr] ++ [10]) = bytesOf (prP x) := by rw [bytesOf_append]; rfl
    have hal : [x.ev, x.of_, x.ask, x.pa.mn, x.pa.mx, x.pa.gr].all inI = true := potI_all hx0
    have hl := prP_len hx0
    simp only [Nat.zero_add, Int.toNat_natCast, e0, e1, e2, e3, e4, e5, w6, cPort_k, eP, hal, bytesOf_size] at st
    rw [decide_eq_true (show (k : Int) < (n : Int) by omega), decide_eq_true (show (0 : Int) ≤ k by omega), decide_eq_true (show k < rs.length by omega), decide_eq_true (show s.size + (prP x).length ≤ 9223372036854775807 by omega)] at st
    have ih' := ih (k + 1) (s ++ bytesOf (prP x)) hd (by omega) hall (by rw [ByteArray.size_append, bytesOf_size]; omega)
    rw [show s ++ bytesOf (prPs (x :: rest)) = (s ++ bytesOf (prP x)) ++ bytesOf (prPs rest) by rw [ByteArray.append_assoc, bytesOf_append]; rfl]
    refine loopN_step st rfl (vals' := [.str (s ++ bytesOf (prP x)), .sl 0 0 0 6 n none, .int .i64 n, .int .i64 ((k + 1 : Nat) : Int)]) (bs' := [.rows poK rs]) (by kernel_rfl) (by kernel_rfl) (by kernel_rfl) ih' ?_
    (show (seqAfter _ _ _).den = some _; kernel_rfl)
def pF (vals : List V) (bs : List Blk) : Tree LRes := match vals, bs with
  | [.str s, .sl 0 0 0 6 n none, .int .i64 N, .int .i64 i], [.rows [.int .i64, .int .i64, .int .i64, .int .i64, .int .i64, .int .i64] rs] =>
    .need (decide (n = rs.length) && decide (N = n) && decide (i = 0) && decide (n ≤ 1000) && decide (s.size ≤ 100000) && (pots rs).all potI) (.leaf ⟨.exit 0, [.str (s ++ bytesOf (prPs (pots rs)))], [none], []⟩)
  | [.str s, .nils, .int .i64 N, .int .i64 i], [] => .need (decide (N = 0) && decide (i = 0)) (.leaf ⟨.exit 0, [.str s], [], []⟩)
  | _, _ => .fail
def pL : LSpec := ⟨79, [4, 52, 53, 54], [4], pF⟩
theorem p_loop : LoopOK P (loopAt Tryd.f11 0) pL := by
  refine loop_ok prG_ok Go.Proofs.YtkgbphheppfnaaaDoor.hm (Λ := loopsOf []) (LoopsOK.nil (by kernel_rfl)) _ ?_
  intro vals bs r h
  simp only [pL, pF] at h
  split at h
  · rename_i s n N i rs
    rw [den_need, denLf] at h
    simp only [Bool.and_eq_true, decide_eq_true_eq] at h
    obtain ⟨⟨⟨⟨⟨⟨h1, rfl⟩, rfl⟩, h3⟩, h4⟩, h5⟩, h⟩ := h
    have hpl := pots_len rs
    have := p_all h1 h3 (pots rs) 0 s rfl (by omega) h5 (by omega)
    exact ⟨(pots rs).length + 1, this.trans h⟩
  · rename_i s N i
    rw [den_need, denLf] at h
    simp only [Bool.and_eq_true, decide_eq_true_eq] at h
    obtain ⟨⟨rfl, rfl⟩, h⟩ := h
    cases h
    exact ⟨1, loopN_end (pN_round s 0 0) (by show Ex.exit 0 ≠ Ex.nrm; decide)⟩
  · simp [den_fail] at h
def prH (c : Cfh) : List Int := cClock ++ ckT c.id ++ [10] ++ (cDomain ++ (lineW [c.dom] ++ [10])) ++ (cPriority ++ (lineW [c.p1, c.p2] ++ [10])) ++ (cClass ++ (lineW [c.q.cl] ++ [10])) ++ (cAccuracy ++ (lineW [c.q.ac] ++ [10])) ++ (cVariance ++ (lineW [c.q.va] ++ [10])) ++ (cPpb ++ (lineW [c.ppb] ++ [10]))
def prS (c : Cfh) : List Int := match c.sl with | true => cSlave ++ [10] | false => []
/-- A configuration's text. -/
def prL (c : Cfh) (ps : List Pot) : List Int := prH c ++ prS c ++ prPs ps
def cfI (c : Cfh) : Bool := ckB c.id && inI c.dom && inI c.p1 && inI c.p2 && inI c.q.cl && inI c.q.ac && inI c.q.va && inI c.ppb
def prtS : Rx.Spec := fun a b => match a with
  | [.agg cs] => match Cfh.p cs with
    | some (c, [.sl 0 0 0 6 n none]) => match b with
      | [.rows [.int .i64, .int .i64, .int .i64, .int .i64, .int .i64, .int .i64] rs] => .need (decide (n = rs.length) && decide (n ≤ 1000) && cfI c && (pots rs).all potI) (.leaf ⟨.str (bytesOf (prL c (pots rs))), [none], []⟩)
      | _ => .fail
    | some (c, [.nils]) => match b with
      | [] => .need (cfI c) (.leaf ⟨.str (bytesOf (prL c [])), [], []⟩)
      | _ => .fail
    | _ => .fail
  | _ => .fail
theorem prt_ok : SpecOK P 11 prtS := by
  refine specOK_fast prG_ok hm (Λ := loopsOf [(6, pL)]) Tryd.func11 (by kernel_rfl) (LoopsOK.one (by kernel_rfl) p_loop) ?_
  intro args bs r h
  unfold prtS at h
  split at h
  · split at h
    · split at h
      · rename_i cs _ c n hc _ rs
        rw [Cfh.p_eq hc]
        rw [den_need, denLf] at h
        simp only [Bool.and_eq_true, decide_eq_true_eq] at h
        obtain ⟨⟨⟨⟨h1, h2⟩, h3⟩, h4⟩, h⟩ := h
        cases h
        simp only [cfI, Bool.and_eq_true] at h3
        obtain ⟨⟨⟨⟨⟨⟨⟨i0, i1⟩, i2⟩, i3⟩, i4⟩, i5⟩, i6⟩, i7⟩ := h3
        have l1 := lineW_len [c.dom] (by simp [i1])
        have l2 := lineW_len [c.p1, c.p2] (by simp [i2, i3])
        have l3 := lineW_len [c.q.cl] (by simp [i4])
        have l4 := lineW_len [c.q.ac] (by simp [i5])
        have l5 := lineW_len [c.q.va] (by simp [i6])
        have l6 := lineW_len [c.ppb] (by simp [i7])
        simp only [List.length_cons, List.length_nil] at l1 l2 l3 l4 l5 l6
        rw [show (fFn P (specsOf prG) (loopsOf [(6, pL)]) Tryd.f11 [.agg (c.vs ++ [.sl 0 0 0 6 n none])] [.rows poK rs]).denN = Tree.denN (Tree.ite (ckB c.id) (Tree.ite (true && [c.2].all inI) (Tree.ite (decide (23 + (({ data := #[OfNat.ofNat 100, OfNat.ofNat 111, OfNat.ofNat 109, OfNat.ofNat 97, OfNat.ofNat 105, OfNat.ofNat 110] } : ByteArray) ++ bytesOf (lineW [c.2] ++ [10])).size ≤ 9223372036854775807)) (Tree.ite (true && [c.3, c.4].all inI) (Tree.ite (decide ((({ data := #[OfNat.ofNat 99, OfNat.ofNat 108, OfNat.ofNat 111, OfNat.ofNat 99, OfNat.ofNat 107, OfNat.ofNat 32] } : ByteArray) ++ bytesOf (ckT c.id) ++ ({ data := #[OfNat.ofNat 10] } : ByteArray) ++ (({ data := #[OfNat.ofNat 100, OfNat.ofNat 111, OfNat.ofNat 109, OfNat.ofNat 97, OfNat.ofNat 105, OfNat.ofNat 110] } : ByteArray) ++ bytesOf (lineW [c.2] ++ [10]))).size + (({ data := #[OfNat.ofNat 112, OfNat.ofNat 114, OfNat.ofNat 105, OfNat.ofNat 111, OfNat.ofNat 114, OfNat.ofNat 105, OfNat.ofNat 116, OfNat.ofNat 121] } : ByteArray) ++ bytesOf (lineW [c.3, c.4] ++ [10])).size ≤ 9223372036854775807)) (Tree.ite (true && [c.q.1].all inI) (Tree.ite (decide ((({ data := #[OfNat.ofNat 99, OfNat.ofNat 108, OfNat.ofNat 111, OfNat.ofNat 99, OfNat.ofNat 107, OfNat.ofNat 32] } : ByteArray) ++ bytesOf (ckT c.id) ++ ({ data := #[OfNat.ofNat 10] } : ByteArray) ++ (({ data := #[OfNat.ofNat 100, OfNat.ofNat 111, OfNat.ofNat 109, OfNat.ofNat 97, OfNat.ofNat 105, OfNat.ofNat 110] } : ByteArray) ++ bytesOf (lineW [c.2] ++ [10])) ++ (({ data := #[OfNat.ofNat 112, OfNat.ofNat 114, OfNat.ofNat 105, OfNat.ofNat 111, OfNat.ofNat 114, OfNat.ofNat 105, OfNat.ofNat 116, OfNat.ofNat 121] } : ByteArray) ++ bytesOf (lineW [c.3, c.4] ++ [10]))).size + (({ data := #[OfNat.ofNat 99, OfNat.ofNat 108, OfNat.ofNat 97, OfNat.ofNat 115, OfNat.ofNat 115] } : ByteArray) ++ bytesOf (lineW [c.q.1] ++ [10])).size ≤ 9223372036854775807)) (Tree.ite (true && [c.q.2].all inI) (Tree.ite (decide ((({ data := #[OfNat.ofNat 99, OfNat.ofNat 108, OfNat.ofNat 111, OfNat.ofNat 99, OfNat.ofNat 107, OfNat.ofNat 32] } : ByteArray) ++ bytesOf (ckT c.id) ++ ({ data := #[OfNat.ofNat 10] } : ByteArray) ++ (({ data := #[OfNat.ofNat 100, OfNat.ofNat 111, OfNat.ofNat 109, OfNat.ofNat 97, OfNat.ofNat 105, OfNat.ofNat 110] } : ByteArray) ++ bytesOf (lineW [c.2] ++ [10])) ++ (({ data := #[OfNat.ofNat 112, OfNat.ofNat 114, OfNat.ofNat 105, OfNat.ofNat 111, OfNat.ofNat 114, OfNat.ofNat 105, OfNat.ofNat 116, OfNat.ofNat 121] } : ByteArray) ++ bytesOf (lineW [c.3, c.4] ++ [10])) ++ (({ data := #[OfNat.ofNat 99, OfNat.ofNat 108, OfNat.ofNat 97, OfNat.ofNat 115, OfNat.ofNat 115] } : ByteArray) ++ bytesOf (lineW [c.q.1] ++ [10]))).size + (({ data := #[OfNat.ofNat 97, OfNat.ofNat 99, OfNat.ofNat 99, OfNat.ofNat 117, OfNat.ofNat 114, OfNat.ofNat 97, OfNat.ofNat 99, OfNat.ofNat 121] } : ByteArray) ++ bytesOf (lineW [c.q.2] ++ [10])).size ≤ 9223372036854775807)) (Tree.ite (true && [c.q.3].all inI) (Tree.ite (decide ((({ data := #[OfNat.ofNat 99, OfNat.ofNat 108, OfNat.ofNat 111, OfNat.ofNat 99, OfNat.ofNat 107, OfNat.ofNat 32] } : ByteArray) ++ bytesOf (ckT c.id) ++ ({ data := #[OfNat.ofNat 10] } : ByteArray) ++ (({ data := #[OfNat.ofNat 100, OfNat.ofNat 111, OfNat.ofNat 109, OfNat.ofNat 97, OfNat.ofNat 105, OfNat.ofNat 110] } : ByteArray) ++ bytesOf (lineW [c.2] ++ [10])) ++ (({ data := #[OfNat.ofNat 112, OfNat.ofNat 114, OfNat.ofNat 105, OfNat.ofNat 111, OfNat.ofNat 114, OfNat.ofNat 105, OfNat.ofNat 116, OfNat.ofNat 121] } : ByteArray) ++ bytesOf (lineW [c.3, c.4] ++ [10])) ++ (({ data := #[OfNat.ofNat 99, OfNat.ofNat 108, OfNat.ofNat 97, OfNat.ofNat 115, OfNat.ofNat 115] } : ByteArray) ++ bytesOf (lineW [c.q.1] ++ [10])) ++ (({ data := #[OfNat.ofNat 97, OfNat.ofNat 99, OfNat.ofNat 99, OfNat.ofNat 117, OfNat.ofNat 114, OfNat.ofNat 97, OfNat.ofNat 99, OfNat.ofNat 121] } : ByteArray) ++ bytesOf (lineW [c.q.2] ++ [10]))).size + (({ data := #[OfNat.ofNat 118, OfNat.ofNat 97, OfNat.ofNat 114, OfNat.ofNat 105, OfNat.ofNat 97, OfNat.ofNat 110, OfNat.ofNat 99, OfNat.ofNat 101] } : ByteArray) ++ bytesOf (lineW [c.q.3] ++ [10])).size ≤ 9223372036854775807)) (Tree.ite (true && [c.6].all inI) (Tree.ite (decide ((({ data := #[OfNat.ofNat 99, OfNat.ofNat 108, OfNat.ofNat 111, OfNat.ofNat 99, OfNat.ofNat 107, OfNat.ofNat 32] } : ByteArray) ++ bytesOf (ckT c.id) ++ ({ data := #[OfNat.ofNat 10] } : ByteArray) ++ (({ data := #[OfNat.ofNat 100, OfNat.ofNat 111, OfNat.ofNat 109, OfNat.ofNat 97, OfNat.ofNat 105, OfNat.ofNat 110] } : ByteArray) ++ bytesOf (lineW [c.2] ++ [10])) ++ (({ data := #[OfNat.ofNat 112, OfNat.ofNat 114, OfNat.ofNat 105, OfNat.ofNat 111, OfNat.ofNat 114, OfNat.ofNat 105, OfNat.ofNat 116, OfNat.ofNat 121] } : ByteArray) ++ bytesOf (lineW [c.3, c.4] ++ [10])) ++ (({ data := #[OfNat.ofNat 99, OfNat.ofNat 108, OfNat.ofNat 97, OfNat.ofNat 115, OfNat.ofNat 115] } : ByteArray) ++ bytesOf (lineW [c.q.1] ++ [10])) ++ (({ data := #[OfNat.ofNat 97, OfNat.ofNat 99, OfNat.ofNat 99, OfNat.ofNat 117, OfNat.ofNat 114, OfNat.ofNat 97, OfNat.ofNat 99, OfNat.ofNat 121] } : ByteArray) ++ bytesOf (lineW [c.q.2] ++ [10])) ++ (({ data := #[OfNat.ofNat 118, OfNat.ofNat 97, OfNat.ofNat 114, OfNat.ofNat 105, OfNat.ofNat 97, OfNat.ofNat 110, OfNat.ofNat 99, OfNat.ofNat 101] } : ByteArray) ++ bytesOf (lineW [c.q.3] ++ [10]))).size + (({ data := #[OfNat.ofNat 112, OfNat.ofNat 112, OfNat.ofNat 98] } : ByteArray) ++ bytesOf (lineW [c.6] ++ [10])).size ≤ 9223372036854775807)) (Tree.ite c.7 (Tree.ite (decide ((({ data := #[OfNat.ofNat 99, OfNat.ofNat 108, OfNat.ofNat 111, OfNat.ofNat 99, OfNat.ofNat 107, OfNat.ofNat 32] } : ByteArray) ++ bytesOf (ckT c.id) ++ ({ data := #[OfNat.ofNat 10] } : ByteArray) ++ (({ data := #[OfNat.ofNat 100, OfNat.ofNat 111, OfNat.ofNat 109, OfNat.ofNat 97, OfNat.ofNat 105, OfNat.ofNat 110] } : ByteArray) ++ bytesOf (lineW [c.2] ++ [10])) ++ (({ data := #[OfNat.ofNat 112, OfNat.ofNat 114, OfNat.ofNat 105, OfNat.ofNat 111, OfNat.ofNat 114, OfNat.ofNat 105, OfNat.ofNat 116, OfNat.ofNat 121] } : ByteArray) ++ bytesOf (lineW [c.3, c.4] ++ [10])) ++ (({ data := #[OfNat.ofNat 99, OfNat.ofNat 108, OfNat.ofNat 97, OfNat.ofNat 115, OfNat.ofNat 115] } : ByteArray) ++ bytesOf (lineW [c.q.1] ++ [10])) ++ (({ data := #[OfNat.ofNat 97, OfNat.ofNat 99, OfNat.ofNat 99, OfNat.ofNat 117, OfNat.ofNat 114, OfNat.ofNat 97, OfNat.ofNat 99, OfNat.ofNat 121] } : ByteArray) ++ bytesOf (lineW [c.q.2] ++ [10])) ++ (({ data := #[OfNat.ofNat 118, OfNat.ofNat 97, OfNat.ofNat 114, OfNat.ofNat 105, OfNat.ofNat 97, OfNat.ofNat 110, OfNat.ofNat 99, OfNat.ofNat 101] } : ByteArray) ++ bytesOf (lineW [c.q.3] ++ [10])) ++ (({ data := #[OfNat.ofNat 112, OfNat.ofNat 112, OfNat.ofNat 98] } : ByteArray) ++ bytesOf (lineW [c.6] ++ [10]))).size + 6 ≤ 9223372036854775807)) (Tree.ite (decide (n = rs.length) && decide ((↑n : Int) = (↑n : Int)) && true && decide (n ≤ 1000) && decide ((({ data := #[OfNat.ofNat 99, OfNat.ofNat 108, OfNat.ofNat 111, OfNat.ofNat 99, OfNat.ofNat 107, OfNat.ofNat 32] } : ByteArray) ++ bytesOf (ckT c.id) ++ ({ data := #[OfNat.ofNat 10] } : ByteArray) ++ (({ data := #[OfNat.ofNat 100, OfNat.ofNat 111, OfNat.ofNat 109, OfNat.ofNat 97, OfNat.ofNat 105, OfNat.ofNat 110] } : ByteArray) ++ bytesOf (lineW [c.2] ++ [10])) ++ (({ data := #[OfNat.ofNat 112, OfNat.ofNat 114, OfNat.ofNat 105, OfNat.ofNat 111, OfNat.ofNat 114, OfNat.ofNat 105, OfNat.ofNat 116, OfNat.ofNat 121] } : ByteArray) ++ bytesOf (lineW [c.3, c.4] ++ [10])) ++ (({ data := #[OfNat.ofNat 99, OfNat.ofNat 108, OfNat.ofNat 97, OfNat.ofNat 115, OfNat.ofNat 115] } : ByteArray) ++ bytesOf (lineW [c.q.1] ++ [10])) ++ (({ data := #[OfNat.ofNat 97, OfNat.ofNat 99, OfNat.ofNat 99, OfNat.ofNat 117, OfNat.ofNat 114, OfNat.ofNat 97, OfNat.ofNat 99, OfNat.ofNat 121] } : ByteArray) ++ bytesOf (lineW [c.q.2] ++ [10])) ++ (({ data := #[OfNat.ofNat 118, OfNat.ofNat 97, OfNat.ofNat 114, OfNat.ofNat 105, OfNat.ofNat 97, OfNat.ofNat 110, OfNat.ofNat 99, OfNat.ofNat 101] } : ByteArray) ++ bytesOf (lineW [c.q.3] ++ [10])) ++ (({ data := #[OfNat.ofNat 112, OfNat.ofNat 112, OfNat.ofNat 98] } : ByteArray) ++ bytesOf (lineW [c.6] ++ [10])) ++ (({ data := #[OfNat.ofNat 115, OfNat.ofNat 108, OfNat.ofNat 97, OfNat.ofNat 118, OfNat.ofNat 101] } : ByteArray) ++ bytesOf [10])).size ≤ 100000) && (pots rs).all potI) (Tree.leaf { v := V.str (({ data := #[OfNat.ofNat 99, OfNat.ofNat 108, OfNat.ofNat 111, OfNat.ofNat 99, OfNat.ofNat 107, OfNat.ofNat 32] } : ByteArray) ++ bytesOf (ckT c.id) ++ ({ data := #[OfNat.ofNat 10] } : ByteArray) ++ (({ data := #[OfNat.ofNat 100, OfNat.ofNat 111, OfNat.ofNat 109, OfNat.ofNat 97, OfNat.ofNat 105, OfNat.ofNat 110] } : ByteArray) ++ bytesOf (lineW [c.2] ++ [10])) ++ (({ data := #[OfNat.ofNat 112, OfNat.ofNat 114, OfNat.ofNat 105, OfNat.ofNat 111, OfNat.ofNat 114, OfNat.ofNat 105, OfNat.ofNat 116, OfNat.ofNat 121] } : ByteArray) ++ bytesOf (lineW [c.3, c.4] ++ [10])) ++ (({ data := #[OfNat.ofNat 99, OfNat.ofNat 108, OfNat.ofNat 97, OfNat.ofNat 115, OfNat.ofNat 115] } : ByteArray) ++ bytesOf (lineW [c.q.1] ++ [10])) ++ (({ data := #[OfNat.ofNat 97, OfNat.ofNat 99, OfNat.ofNat 99, OfNat.ofNat 117, OfNat.ofNat 114, OfNat.ofNat 97, OfNat.ofNat 99, OfNat.ofNat 121] } : ByteArray) ++ bytesOf (lineW [c.q.2] ++ [10])) ++ (({ data := #[OfNat.ofNat 118, OfNat.ofNat 97, OfNat.ofNat 114, OfNat.ofNat 105, OfNat.ofNat 97, OfNat.ofNat 110, OfNat.ofNat 99, OfNat.ofNat 101] } : ByteArray) ++ bytesOf (lineW [c.q.3] ++ [10])) ++ (({ data := #[OfNat.ofNat 112, OfNat.ofNat 112, OfNat.ofNat 98] } : ByteArray) ++ bytesOf (lineW [c.6] ++ [10])) ++ (({ data := #[OfNat.ofNat 115, OfNat.ofNat 108, OfNat.ofNat 97, OfNat.ofNat 118, OfNat.ofNat 101] } : ByteArray) ++ bytesOf [10]) ++ bytesOf (prPs (pots rs))), upd := [none], new := [] }) Tree.fail) Tree.fail) (Tree.ite (decide (n = rs.length) && decide ((↑n : Int) = (↑n : Int)) && true && decide (n ≤ 1000) && decide ((({ data := #[OfNat.ofNat 99, OfNat.ofNat 108, OfNat.ofNat 111, OfNat.ofNat 99, OfNat.ofNat 107, OfNat.ofNat 32] } : ByteArray) ++ bytesOf (ckT c.id) ++ ({ data := #[OfNat.ofNat 10] } : ByteArray) ++ (({ data := #[OfNat.ofNat 100, OfNat.ofNat 111, OfNat.ofNat 109, OfNat.ofNat 97, OfNat.ofNat 105, OfNat.ofNat 110] } : ByteArray) ++ bytesOf (lineW [c.2] ++ [10])) ++ (({ data := #[OfNat.ofNat 112, OfNat.ofNat 114, OfNat.ofNat 105, OfNat.ofNat 111, OfNat.ofNat 114, OfNat.ofNat 105, OfNat.ofNat 116, OfNat.ofNat 121] } : ByteArray) ++ bytesOf (lineW [c.3, c.4] ++ [10])) ++ (({ data := #[OfNat.ofNat 99, OfNat.ofNat 108, OfNat.ofNat 97, OfNat.ofNat 115, OfNat.ofNat 115] } : ByteArray) ++ bytesOf (lineW [c.q.1] ++ [10])) ++ (({ data := #[OfNat.ofNat 97, OfNat.ofNat 99, OfNat.ofNat 99, OfNat.ofNat 117, OfNat.ofNat 114, OfNat.ofNat 97, OfNat.ofNat 99, OfNat.ofNat 121] } : ByteArray) ++ bytesOf (lineW [c.q.2] ++ [10])) ++ (({ data := #[OfNat.ofNat 118, OfNat.ofNat 97, OfNat.ofNat 114, OfNat.ofNat 105, OfNat.ofNat 97, OfNat.ofNat 110, OfNat.ofNat 99, OfNat.ofNat 101] } : ByteArray) ++ bytesOf (lineW [c.q.3] ++ [10])) ++ (({ data := #[OfNat.ofNat 112, OfNat.ofNat 112, OfNat.ofNat 98] } : ByteArray) ++ bytesOf (lineW [c.6] ++ [10]))).size ≤ 100000) && (pots rs).all potI) (Tree.leaf { v := V.str (({ data := #[OfNat.ofNat 99, OfNat.ofNat 108, OfNat.ofNat 111, OfNat.ofNat 99, OfNat.ofNat 107, OfNat.ofNat 32] } : ByteArray) ++ bytesOf (ckT c.id) ++ ({ data := #[OfNat.ofNat 10] } : ByteArray) ++ (({ data := #[OfNat.ofNat 100, OfNat.ofNat 111, OfNat.ofNat 109, OfNat.ofNat 97, OfNat.ofNat 105, OfNat.ofNat 110] } : ByteArray) ++ bytesOf (lineW [c.2] ++ [10])) ++ (({ data := #[OfNat.ofNat 112, OfNat.ofNat 114, OfNat.ofNat 105, OfNat.ofNat 111, OfNat.ofNat 114, OfNat.ofNat 105, OfNat.ofNat 116, OfNat.ofNat 121] } : ByteArray) ++ bytesOf (lineW [c.3, c.4] ++ [10])) ++ (({ data := #[OfNat.ofNat 99, OfNat.ofNat 108, OfNat.ofNat 97, OfNat.ofNat 115, OfNat.ofNat 115] } : ByteArray) ++ bytesOf (lineW [c.q.1] ++ [10])) ++ (({ data := #[OfNat.ofNat 97, OfNat.ofNat 99, OfNat.ofNat 99, OfNat.ofNat 117, OfNat.ofNat 114, OfNat.ofNat 97, OfNat.ofNat 99, OfNat.ofNat 121] } : ByteArray) ++ bytesOf (lineW [c.q.2] ++ [10])) ++ (({ data := #[OfNat.ofNat 118, OfNat.ofNat 97, OfNat.ofNat 114, OfNat.ofNat 105, OfNat.ofNat 97, OfNat.ofNat 110, OfNat.ofNat 99, OfNat.ofNat 101] } : ByteArray) ++ bytesOf (lineW [c.q.3] ++ [10])) ++ (({ data := #[OfNat.ofNat 112, OfNat.ofNat 112, OfNat.ofNat 98] } : ByteArray) ++ bytesOf (lineW [c.6] ++ [10])) ++ bytesOf (prPs (pots rs))), upd := [none], new := [] }) Tree.fail)) Tree.fail) Tree.fail) Tree.fail) Tree.fail) Tree.fail) Tree.fail) Tree.fail) Tree.fail) Tree.fail) Tree.fail) Tree.fail) Tree.fail) Tree.fail) from by kernel_rfl]
        simp only [cClock_k, cDomain_k, cPriority_k, cClass_k, cAccuracy_k, cVariance_k, cPpb_k, cSlave_k, cPort_k, c10_k, bytesOf_append]
        simp only [denN_ite, denN_leaf, denN_fail, bytesOf_size, List.length_append, cClock_len, cDomain_len, cPriority_len, cClass_len, cAccuracy_len, cVariance_len, cPpb_len, cSlave_len, cPort_len, ckT_len, List.length_cons, List.length_nil, i0, i1, i2, i3, i4, i5, i6, i7, h4, decide_eq_true h1, decide_eq_true h2, List.all_cons, List.all_nil, Bool.and_self, Bool.and_true, if_true, decide_true]
        rw [if_pos (by rw [decide_eq_true_eq]; omega)]
        rw [if_pos (by rw [decide_eq_true_eq]; omega)]
        rw [if_pos (by rw [decide_eq_true_eq]; omega)]
        rw [if_pos (by rw [decide_eq_true_eq]; omega)]
        rw [if_pos (by rw [decide_eq_true_eq]; omega)]
        rw [if_pos (by rw [decide_eq_true_eq]; omega)]
        cases hs : c.sl with
        | true =>
          rw [if_pos rfl]
          rw [if_pos (by rw [decide_eq_true_eq]; omega)]
          rw [if_pos (by simp only [Bool.and_eq_true, decide_eq_true_eq, true_and, and_true]; omega)]
          unfold prL prS
          rw [hs]
          rfl
        | false =>
          rw [if_neg (by decide)]
          rw [if_pos (by simp only [Bool.and_eq_true, decide_eq_true_eq, true_and, and_true]; omega)]
          unfold prL prS
          rw [hs]
          simp only [List.append_nil]
          rfl
      · simp [den_fail] at h
    · split at h
      · rename_i cs _ c hc _
        rw [Cfh.p_eq hc]
        rw [den_need, denLf] at h
        obtain ⟨h3, h⟩ := h
        cases h
        simp only [cfI, Bool.and_eq_true] at h3
        obtain ⟨⟨⟨⟨⟨⟨⟨i0, i1⟩, i2⟩, i3⟩, i4⟩, i5⟩, i6⟩, i7⟩ := h3
        have l1 := lineW_len [c.dom] (by simp [i1])
        have l2 := lineW_len [c.p1, c.p2] (by simp [i2, i3])
        have l3 := lineW_len [c.q.cl] (by simp [i4])
        have l4 := lineW_len [c.q.ac] (by simp [i5])
        have l5 := lineW_len [c.q.va] (by simp [i6])
        have l6 := lineW_len [c.ppb] (by simp [i7])
        simp only [List.length_cons, List.length_nil] at l1 l2 l3 l4 l5 l6
        rw [show (fFn P (specsOf prG) (loopsOf [(6, pL)]) Tryd.f11 [.agg (c.vs ++ [.nils])] []).denN = Tree.denN (Tree.ite (ckB c.id) (Tree.ite (true && [c.2].all inI) (Tree.ite (decide (23 + (({ data := #[OfNat.ofNat 100, OfNat.ofNat 111, OfNat.ofNat 109, OfNat.ofNat 97, OfNat.ofNat 105, OfNat.ofNat 110] } : ByteArray) ++ bytesOf (lineW [c.2] ++ [10])).size ≤ 9223372036854775807)) (Tree.ite (true && [c.3, c.4].all inI) (Tree.ite (decide ((({ data := #[OfNat.ofNat 99, OfNat.ofNat 108, OfNat.ofNat 111, OfNat.ofNat 99, OfNat.ofNat 107, OfNat.ofNat 32] } : ByteArray) ++ bytesOf (ckT c.id) ++ ({ data := #[OfNat.ofNat 10] } : ByteArray) ++ (({ data := #[OfNat.ofNat 100, OfNat.ofNat 111, OfNat.ofNat 109, OfNat.ofNat 97, OfNat.ofNat 105, OfNat.ofNat 110] } : ByteArray) ++ bytesOf (lineW [c.2] ++ [10]))).size + (({ data := #[OfNat.ofNat 112, OfNat.ofNat 114, OfNat.ofNat 105, OfNat.ofNat 111, OfNat.ofNat 114, OfNat.ofNat 105, OfNat.ofNat 116, OfNat.ofNat 121] } : ByteArray) ++ bytesOf (lineW [c.3, c.4] ++ [10])).size ≤ 9223372036854775807)) (Tree.ite (true && [c.q.1].all inI) (Tree.ite (decide ((({ data := #[OfNat.ofNat 99, OfNat.ofNat 108, OfNat.ofNat 111, OfNat.ofNat 99, OfNat.ofNat 107, OfNat.ofNat 32] } : ByteArray) ++ bytesOf (ckT c.id) ++ ({ data := #[OfNat.ofNat 10] } : ByteArray) ++ (({ data := #[OfNat.ofNat 100, OfNat.ofNat 111, OfNat.ofNat 109, OfNat.ofNat 97, OfNat.ofNat 105, OfNat.ofNat 110] } : ByteArray) ++ bytesOf (lineW [c.2] ++ [10])) ++ (({ data := #[OfNat.ofNat 112, OfNat.ofNat 114, OfNat.ofNat 105, OfNat.ofNat 111, OfNat.ofNat 114, OfNat.ofNat 105, OfNat.ofNat 116, OfNat.ofNat 121] } : ByteArray) ++ bytesOf (lineW [c.3, c.4] ++ [10]))).size + (({ data := #[OfNat.ofNat 99, OfNat.ofNat 108, OfNat.ofNat 97, OfNat.ofNat 115, OfNat.ofNat 115] } : ByteArray) ++ bytesOf (lineW [c.q.1] ++ [10])).size ≤ 9223372036854775807)) (Tree.ite (true && [c.q.2].all inI) (Tree.ite (decide ((({ data := #[OfNat.ofNat 99, OfNat.ofNat 108, OfNat.ofNat 111, OfNat.ofNat 99, OfNat.ofNat 107, OfNat.ofNat 32] } : ByteArray) ++ bytesOf (ckT c.id) ++ ({ data := #[OfNat.ofNat 10] } : ByteArray) ++ (({ data := #[OfNat.ofNat 100, OfNat.ofNat 111, OfNat.ofNat 109, OfNat.ofNat 97, OfNat.ofNat 105, OfNat.ofNat 110] } : ByteArray) ++ bytesOf (lineW [c.2] ++ [10])) ++ (({ data := #[OfNat.ofNat 112, OfNat.ofNat 114, OfNat.ofNat 105, OfNat.ofNat 111, OfNat.ofNat 114, OfNat.ofNat 105, OfNat.ofNat 116, OfNat.ofNat 121] } : ByteArray) ++ bytesOf (lineW [c.3, c.4] ++ [10])) ++ (({ data := #[OfNat.ofNat 99, OfNat.ofNat 108, OfNat.ofNat 97, OfNat.ofNat 115, OfNat.ofNat 115] } : ByteArray) ++ bytesOf (lineW [c.q.1] ++ [10]))).size + (({ data := #[OfNat.ofNat 97, OfNat.ofNat 99, OfNat.ofNat 99, OfNat.ofNat 117, OfNat.ofNat 114, OfNat.ofNat 97, OfNat.ofNat 99, OfNat.ofNat 121] } : ByteArray) ++ bytesOf (lineW [c.q.2] ++ [10])).size ≤ 9223372036854775807)) (Tree.ite (true && [c.q.3].all inI) (Tree.ite (decide ((({ data := #[OfNat.ofNat 99, OfNat.ofNat 108, OfNat.ofNat 111, OfNat.ofNat 99, OfNat.ofNat 107, OfNat.ofNat 32] } : ByteArray) ++ bytesOf (ckT c.id) ++ ({ data := #[OfNat.ofNat 10] } : ByteArray) ++ (({ data := #[OfNat.ofNat 100, OfNat.ofNat 111, OfNat.ofNat 109, OfNat.ofNat 97, OfNat.ofNat 105, OfNat.ofNat 110] } : ByteArray) ++ bytesOf (lineW [c.2] ++ [10])) ++ (({ data := #[OfNat.ofNat 112, OfNat.ofNat 114, OfNat.ofNat 105, OfNat.ofNat 111, OfNat.ofNat 114, OfNat.ofNat 105, OfNat.ofNat 116, OfNat.ofNat 121] } : ByteArray) ++ bytesOf (lineW [c.3, c.4] ++ [10])) ++ (({ data := #[OfNat.ofNat 99, OfNat.ofNat 108, OfNat.ofNat 97, OfNat.ofNat 115, OfNat.ofNat 115] } : ByteArray) ++ bytesOf (lineW [c.q.1] ++ [10])) ++ (({ data := #[OfNat.ofNat 97, OfNat.ofNat 99, OfNat.ofNat 99, OfNat.ofNat 117, OfNat.ofNat 114, OfNat.ofNat 97, OfNat.ofNat 99, OfNat.ofNat 121] } : ByteArray) ++ bytesOf (lineW [c.q.2] ++ [10]))).size + (({ data := #[OfNat.ofNat 118, OfNat.ofNat 97, OfNat.ofNat 114, OfNat.ofNat 105, OfNat.ofNat 97, OfNat.ofNat 110, OfNat.ofNat 99, OfNat.ofNat 101] } : ByteArray) ++ bytesOf (lineW [c.q.3] ++ [10])).size ≤ 9223372036854775807)) (Tree.ite (true && [c.6].all inI) (Tree.ite (decide ((({ data := #[OfNat.ofNat 99, OfNat.ofNat 108, OfNat.ofNat 111, OfNat.ofNat 99, OfNat.ofNat 107, OfNat.ofNat 32] } : ByteArray) ++ bytesOf (ckT c.id) ++ ({ data := #[OfNat.ofNat 10] } : ByteArray) ++ (({ data := #[OfNat.ofNat 100, OfNat.ofNat 111, OfNat.ofNat 109, OfNat.ofNat 97, OfNat.ofNat 105, OfNat.ofNat 110] } : ByteArray) ++ bytesOf (lineW [c.2] ++ [10])) ++ (({ data := #[OfNat.ofNat 112, OfNat.ofNat 114, OfNat.ofNat 105, OfNat.ofNat 111, OfNat.ofNat 114, OfNat.ofNat 105, OfNat.ofNat 116, OfNat.ofNat 121] } : ByteArray) ++ bytesOf (lineW [c.3, c.4] ++ [10])) ++ (({ data := #[OfNat.ofNat 99, OfNat.ofNat 108, OfNat.ofNat 97, OfNat.ofNat 115, OfNat.ofNat 115] } : ByteArray) ++ bytesOf (lineW [c.q.1] ++ [10])) ++ (({ data := #[OfNat.ofNat 97, OfNat.ofNat 99, OfNat.ofNat 99, OfNat.ofNat 117, OfNat.ofNat 114, OfNat.ofNat 97, OfNat.ofNat 99, OfNat.ofNat 121] } : ByteArray) ++ bytesOf (lineW [c.q.2] ++ [10])) ++ (({ data := #[OfNat.ofNat 118, OfNat.ofNat 97, OfNat.ofNat 114, OfNat.ofNat 105, OfNat.ofNat 97, OfNat.ofNat 110, OfNat.ofNat 99, OfNat.ofNat 101] } : ByteArray) ++ bytesOf (lineW [c.q.3] ++ [10]))).size + (({ data := #[OfNat.ofNat 112, OfNat.ofNat 112, OfNat.ofNat 98] } : ByteArray) ++ bytesOf (lineW [c.6] ++ [10])).size ≤ 9223372036854775807)) (Tree.ite c.7 (Tree.ite (decide ((({ data := #[OfNat.ofNat 99, OfNat.ofNat 108, OfNat.ofNat 111, OfNat.ofNat 99, OfNat.ofNat 107, OfNat.ofNat 32] } : ByteArray) ++ bytesOf (ckT c.id) ++ ({ data := #[OfNat.ofNat 10] } : ByteArray) ++ (({ data := #[OfNat.ofNat 100, OfNat.ofNat 111, OfNat.ofNat 109, OfNat.ofNat 97, OfNat.ofNat 105, OfNat.ofNat 110] } : ByteArray) ++ bytesOf (lineW [c.2] ++ [10])) ++ (({ data := #[OfNat.ofNat 112, OfNat.ofNat 114, OfNat.ofNat 105, OfNat.ofNat 111, OfNat.ofNat 114, OfNat.ofNat 105, OfNat.ofNat 116, OfNat.ofNat 121] } : ByteArray) ++ bytesOf (lineW [c.3, c.4] ++ [10])) ++ (({ data := #[OfNat.ofNat 99, OfNat.ofNat 108, OfNat.ofNat 97, OfNat.ofNat 115, OfNat.ofNat 115] } : ByteArray) ++ bytesOf (lineW [c.q.1] ++ [10])) ++ (({ data := #[OfNat.ofNat 97, OfNat.ofNat 99, OfNat.ofNat 99, OfNat.ofNat 117, OfNat.ofNat 114, OfNat.ofNat 97, OfNat.ofNat 99, OfNat.ofNat 121] } : ByteArray) ++ bytesOf (lineW [c.q.2] ++ [10])) ++ (({ data := #[OfNat.ofNat 118, OfNat.ofNat 97, OfNat.ofNat 114, OfNat.ofNat 105, OfNat.ofNat 97, OfNat.ofNat 110, OfNat.ofNat 99, OfNat.ofNat 101] } : ByteArray) ++ bytesOf (lineW [c.q.3] ++ [10])) ++ (({ data := #[OfNat.ofNat 112, OfNat.ofNat 112, OfNat.ofNat 98] } : ByteArray) ++ bytesOf (lineW [c.6] ++ [10]))).size + 6 ≤ 9223372036854775807)) (Tree.leaf { v := V.str (({ data := #[OfNat.ofNat 99, OfNat.ofNat 108, OfNat.ofNat 111, OfNat.ofNat 99, OfNat.ofNat 107, OfNat.ofNat 32] } : ByteArray) ++ bytesOf (ckT c.id) ++ ({ data := #[OfNat.ofNat 10] } : ByteArray) ++ (({ data := #[OfNat.ofNat 100, OfNat.ofNat 111, OfNat.ofNat 109, OfNat.ofNat 97, OfNat.ofNat 105, OfNat.ofNat 110] } : ByteArray) ++ bytesOf (lineW [c.2] ++ [10])) ++ (({ data := #[OfNat.ofNat 112, OfNat.ofNat 114, OfNat.ofNat 105, OfNat.ofNat 111, OfNat.ofNat 114, OfNat.ofNat 105, OfNat.ofNat 116, OfNat.ofNat 121] } : ByteArray) ++ bytesOf (lineW [c.3, c.4] ++ [10])) ++ (({ data := #[OfNat.ofNat 99, OfNat.ofNat 108, OfNat.ofNat 97, OfNat.ofNat 115, OfNat.ofNat 115] } : ByteArray) ++ bytesOf (lineW [c.q.1] ++ [10])) ++ (({ data := #[OfNat.ofNat 97, OfNat.ofNat 99, OfNat.ofNat 99, OfNat.ofNat 117, OfNat.ofNat 114, OfNat.ofNat 97, OfNat.ofNat 99, OfNat.ofNat 121] } : ByteArray) ++ bytesOf (lineW [c.q.2] ++ [10])) ++ (({ data := #[OfNat.ofNat 118, OfNat.ofNat 97, OfNat.ofNat 114, OfNat.ofNat 105, OfNat.ofNat 97, OfNat.ofNat 110, OfNat.ofNat 99, OfNat.ofNat 101] } : ByteArray) ++ bytesOf (lineW [c.q.3] ++ [10])) ++ (({ data := #[OfNat.ofNat 112, OfNat.ofNat 112, OfNat.ofNat 98] } : ByteArray) ++ bytesOf (lineW [c.6] ++ [10])) ++ (({ data := #[OfNat.ofNat 115, OfNat.ofNat 108, OfNat.ofNat 97, OfNat.ofNat 118, OfNat.ofNat 101] } : ByteArray) ++ bytesOf [10])), upd := [], new := [] }) Tree.fail) (Tree.leaf { v := V.str (({ data := #[OfNat.ofNat 99, OfNat.ofNat 108, OfNat.ofNat 111, OfNat.ofNat 99, OfNat.ofNat 107, OfNat.ofNat 32] } : ByteArray) ++ bytesOf (ckT c.id) ++ ({ data := #[OfNat.ofNat 10] } : ByteArray) ++ (({ data := #[OfNat.ofNat 100, OfNat.ofNat 111, OfNat.ofNat 109, OfNat.ofNat 97, OfNat.ofNat 105, OfNat.ofNat 110] } : ByteArray) ++ bytesOf (lineW [c.2] ++ [10])) ++ (({ data := #[OfNat.ofNat 112, OfNat.ofNat 114, OfNat.ofNat 105, OfNat.ofNat 111, OfNat.ofNat 114, OfNat.ofNat 105, OfNat.ofNat 116, OfNat.ofNat 121] } : ByteArray) ++ bytesOf (lineW [c.3, c.4] ++ [10])) ++ (({ data := #[OfNat.ofNat 99, OfNat.ofNat 108, OfNat.ofNat 97, OfNat.ofNat 115, OfNat.ofNat 115] } : ByteArray) ++ bytesOf (lineW [c.q.1] ++ [10])) ++ (({ data := #[OfNat.ofNat 97, OfNat.ofNat 99, OfNat.ofNat 99, OfNat.ofNat 117, OfNat.ofNat 114, OfNat.ofNat 97, OfNat.ofNat 99, OfNat.ofNat 121] } : ByteArray) ++ bytesOf (lineW [c.q.2] ++ [10])) ++ (({ data := #[OfNat.ofNat 118, OfNat.ofNat 97, OfNat.ofNat 114, OfNat.ofNat 105, OfNat.ofNat 97, OfNat.ofNat 110, OfNat.ofNat 99, OfNat.ofNat 101] } : ByteArray) ++ bytesOf (lineW [c.q.3] ++ [10])) ++ (({ data := #[OfNat.ofNat 112, OfNat.ofNat 112, OfNat.ofNat 98] } : ByteArray) ++ bytesOf (lineW [c.6] ++ [10]))), upd := [], new := [] })) Tree.fail) Tree.fail) Tree.fail) Tree.fail) Tree.fail) Tree.fail) Tree.fail) Tree.fail) Tree.fail) Tree.fail) Tree.fail) Tree.fail) Tree.fail) from by kernel_rfl]
        simp only [cClock_k, cDomain_k, cPriority_k, cClass_k, cAccuracy_k, cVariance_k, cPpb_k, cSlave_k, cPort_k, c10_k, bytesOf_append]
        simp only [denN_ite, denN_leaf, denN_fail, bytesOf_size, List.length_append, cClock_len, cDomain_len, cPriority_len, cClass_len, cAccuracy_len, cVariance_len, cPpb_len, cSlave_len, cPort_len, ckT_len, List.length_cons, List.length_nil, i0, i1, i2, i3, i4, i5, i6, i7, List.all_cons, List.all_nil, Bool.and_self, Bool.and_true, if_true, decide_true]
        rw [if_pos (by rw [decide_eq_true_eq]; omega)]
        rw [if_pos (by rw [decide_eq_true_eq]; omega)]
        rw [if_pos (by rw [decide_eq_true_eq]; omega)]
        rw [if_pos (by rw [decide_eq_true_eq]; omega)]
        rw [if_pos (by rw [decide_eq_true_eq]; omega)]
        rw [if_pos (by rw [decide_eq_true_eq]; omega)]
        cases hs : c.sl with
        | true =>
          rw [if_pos rfl]
          rw [if_pos (by rw [decide_eq_true_eq]; omega)]
          unfold prL prS
          rw [hs]
          simp only [prPs, List.append_nil]
          rfl
        | false =>
          rw [if_neg (by decide)]
          unfold prL prS
          rw [hs]
          simp only [prPs, List.append_nil]
          rfl
      · simp [den_fail] at h
    · simp [den_fail] at h
  · simp [den_fail] at h
end Go.Proofs.YtkgbphheppfnaaaDoor
