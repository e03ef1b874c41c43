/- The numbers of the library's functions in this program (laid by the shelf's tool in its plain mode). -/
import Derived.Shelf.Strings.Prefix
import Derived.Shelf.Strings.SlTrimAscii
import Derived.Test.YtndomnknjlihhaaDoorProg
set_option linter.unusedVariables false
set_option linter.unusedSimpArgs false
namespace Go.Proofs
open Go.Shelf
def Tryd.lays160_ren : Go.Shelf.Ren := ⟨fun | 160 => 25 | 232 => 40 | 231 => 39 | 227 => 41 | 234 => 43 | 233 => 42 | 236 => 45 | 235 => 44 | 228 => 66 | 271 => 69 | 151 => 68 | 197 => 67 | 120 => 85 | 152 => 84 | 260 => 83 | 137 => 46 | 119 => 91 | 224 => 92 | 225 => 93 | 217 => 70 | 266 => 86 | n => n, fun | 9 => 9 | 4 => 4 | 3 => 3 | 5 => 5 | 117 => 85 | 116 => 84 | 0 => 0 | 124 => 88 | 21 => 21 | 105 => 101 | 46 => 77 | 119 => 123 | 139 => 126 | 138 => 125 | n => n, fun | 3 => 3 | 4 => 4 | n => n⟩
theorem Tryd.lays160 : Go.Proofs.Lays.n160 Tryd.prog Tryd.lays160_ren := {
  mixed := by kernel_rfl
  f119 := Tryd.func91.trans (congrArg some (by kernel_rfl))
  f120 := Tryd.func85.trans (congrArg some (by kernel_rfl))
  f137 := Tryd.func46.trans (congrArg some (by kernel_rfl))
  f151 := Tryd.func68.trans (congrArg some (by kernel_rfl))
  f152 := Tryd.func84.trans (congrArg some (by kernel_rfl))
  f160 := Tryd.func25.trans (congrArg some (by kernel_rfl))
  f197 := Tryd.func67.trans (congrArg some (by kernel_rfl))
  f217 := Tryd.func70.trans (congrArg some (by kernel_rfl))
  f224 := Tryd.func92.trans (congrArg some (by kernel_rfl))
  f225 := Tryd.func93.trans (congrArg some (by kernel_rfl))
  f227 := Tryd.func41.trans (congrArg some (by kernel_rfl))
  f228 := Tryd.func66.trans (congrArg some (by kernel_rfl))
  f231 := Tryd.func39.trans (congrArg some (by kernel_rfl))
  f232 := Tryd.func40.trans (congrArg some (by kernel_rfl))
  f233 := Tryd.func42.trans (congrArg some (by kernel_rfl))
  f234 := Tryd.func43.trans (congrArg some (by kernel_rfl))
  f235 := Tryd.func44.trans (congrArg some (by kernel_rfl))
  f236 := Tryd.func45.trans (congrArg some (by kernel_rfl))
  f260 := Tryd.func83.trans (congrArg some (by kernel_rfl))
  f266 := Tryd.func86.trans (congrArg some (by kernel_rfl))
  f271 := Tryd.func69.trans (congrArg some (by kernel_rfl))
  t0 := Tryd.underlying0
  a0 := Tryd.isAgg0
  z0 := Tryd.sizeOf0
  v0 := Tryd.zeroValue0
  t3 := Tryd.underlying3
  a3 := Tryd.isAgg3
  z3 := Tryd.sizeOf3
  v3 := Tryd.zeroValue3
  t4 := Tryd.underlying4
  a4 := Tryd.isAgg4
  z4 := Tryd.sizeOf4
  v4 := Tryd.zeroValue4
  t5 := Tryd.underlying5
  a5 := Tryd.isAgg5
  z5 := Tryd.sizeOf5
  v5 := Tryd.zeroValue5
  t9 := Tryd.underlying9
  a9 := Tryd.isAgg9
  z9 := Tryd.sizeOf9
  v9 := Tryd.zeroValue9
  t21 := Tryd.underlying21
  a21 := Tryd.isAgg21
  z21 := Tryd.sizeOf21
  v21 := Tryd.zeroValue21
  t46 := Tryd.underlying77
  a46 := Tryd.isAgg77
  z46 := Tryd.sizeOf77
  v46 := Tryd.zeroValue77
  t105 := Tryd.underlying101
  a105 := Tryd.isAgg101
  z105 := Tryd.sizeOf101
  v105 := Tryd.zeroValue101
  t116 := Tryd.underlying84
  a116 := Tryd.isAgg84
  z116 := Tryd.sizeOf84
  t117 := Tryd.underlying85
  a117 := Tryd.isAgg85
  z117 := Tryd.sizeOf85
  v117 := Tryd.zeroValue85
  t119 := Tryd.underlying123
  a119 := Tryd.isAgg123
  z119 := Tryd.sizeOf123
  t124 := Tryd.underlying88
  a124 := Tryd.isAgg88
  z124 := Tryd.sizeOf88
  v124 := Tryd.zeroValue88
  t138 := Tryd.underlying125
  a138 := Tryd.isAgg125
  z138 := Tryd.sizeOf125
  v138 := Tryd.zeroValue125
  t139 := Tryd.underlying126
  a139 := Tryd.isAgg126
  z139 := Tryd.sizeOf126
  v139 := Tryd.zeroValue126
  g3 := by kernel_rfl
  g4 := by kernel_rfl }
def Tryd.lays137_ren : Go.Shelf.Ren := ⟨fun | 137 => 46 | 217 => 70 | 266 => 86 | n => n, fun | 9 => 9 | 5 => 5 | 3 => 3 | n => n, fun | n => n⟩
theorem Tryd.lays137 : Go.Proofs.Lays.n137 Tryd.prog Tryd.lays137_ren := {
  mixed := by kernel_rfl
  f137 := Tryd.func46.trans (congrArg some (by kernel_rfl))
  f217 := Tryd.func70.trans (congrArg some (by kernel_rfl))
  f266 := Tryd.func86.trans (congrArg some (by kernel_rfl))
  t3 := Tryd.underlying3
  a3 := Tryd.isAgg3
  z3 := Tryd.sizeOf3
  v3 := Tryd.zeroValue3
  t5 := Tryd.underlying5
  a5 := Tryd.isAgg5
  z5 := Tryd.sizeOf5
  v5 := Tryd.zeroValue5
  t9 := Tryd.underlying9
  a9 := Tryd.isAgg9
  z9 := Tryd.sizeOf9
  v9 := Tryd.zeroValue9 }
end Go.Proofs
