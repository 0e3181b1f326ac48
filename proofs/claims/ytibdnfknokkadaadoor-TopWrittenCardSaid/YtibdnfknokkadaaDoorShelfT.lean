/- strings.Trim, laid off the shelf at this program. -/
import Derived.Shelf.Strings.Trim
import Derived.Test.YtibdnfknokkadaaDoorProg
namespace Go.Proofs
open Go.Shelf
def Tryd.lays160_ren : Go.Shelf.Ren := ⟨fun | 160 => 56 | 232 => 69 | 231 => 68 | 227 => 70 | 234 => 72 | 233 => 71 | 236 => 74 | 235 => 73 | 228 => 79 | 271 => 82 | 151 => 81 | 197 => 80 | 120 => 85 | 152 => 84 | 260 => 83 | 137 => 86 | 119 => 87 | 224 => 88 | 225 => 89 | 217 => 90 | 266 => 91 | n => n, fun | 9 => 9 | 4 => 4 | 3 => 3 | 5 => 5 | 117 => 121 | 116 => 120 | 0 => 0 | 124 => 124 | 21 => 21 | 105 => 131 | 46 => 88 | 119 => 135 | 139 => 138 | 138 => 137 | n => n, fun | 3 => 2 | 4 => 3 | n => n⟩
theorem Tryd.lays160 : Go.Proofs.Lays.n160 Tryd.prog Tryd.lays160_ren := {
  mixed := by kernel_rfl
  f119 := Tryd.func87.trans (congrArg some (by kernel_rfl))
  f120 := Tryd.func85.trans (congrArg some (by kernel_rfl))
  f137 := Tryd.func86.trans (congrArg some (by kernel_rfl))
  f151 := Tryd.func81.trans (congrArg some (by kernel_rfl))
  f152 := Tryd.func84.trans (congrArg some (by kernel_rfl))
  f160 := Tryd.func56.trans (congrArg some (by kernel_rfl))
  f197 := Tryd.func80.trans (congrArg some (by kernel_rfl))
  f217 := Tryd.func90.trans (congrArg some (by kernel_rfl))
  f224 := Tryd.func88.trans (congrArg some (by kernel_rfl))
  f225 := Tryd.func89.trans (congrArg some (by kernel_rfl))
  f227 := Tryd.func70.trans (congrArg some (by kernel_rfl))
  f228 := Tryd.func79.trans (congrArg some (by kernel_rfl))
  f231 := Tryd.func68.trans (congrArg some (by kernel_rfl))
  f232 := Tryd.func69.trans (congrArg some (by kernel_rfl))
  f233 := Tryd.func71.trans (congrArg some (by kernel_rfl))
  f234 := Tryd.func72.trans (congrArg some (by kernel_rfl))
  f235 := Tryd.func73.trans (congrArg some (by kernel_rfl))
  f236 := Tryd.func74.trans (congrArg some (by kernel_rfl))
  f260 := Tryd.func83.trans (congrArg some (by kernel_rfl))
  f266 := Tryd.func91.trans (congrArg some (by kernel_rfl))
  f271 := Tryd.func82.trans (congrArg some (by kernel_rfl))
  t0 := Tryd.underlying0
  a0 := Tryd.isAgg0
  z0 := Tryd.sizeOf0
  v0 := Tryd.zeroValue0
  t3 := Tryd.underlying3
  a3 := Tryd.isAgg3
  z3 := Tryd.sizeOf3
  v3 := Tryd.zeroValue3
  t4 := Tryd.underlying4
  a4 := Tryd.isAgg4
  z4 := Tryd.sizeOf4
  v4 := Tryd.zeroValue4
  t5 := Tryd.underlying5
  a5 := Tryd.isAgg5
  z5 := Tryd.sizeOf5
  v5 := Tryd.zeroValue5
  t9 := Tryd.underlying9
  a9 := Tryd.isAgg9
  z9 := Tryd.sizeOf9
  v9 := Tryd.zeroValue9
  t21 := Tryd.underlying21
  a21 := Tryd.isAgg21
  z21 := Tryd.sizeOf21
  v21 := Tryd.zeroValue21
  t46 := Tryd.underlying88
  a46 := Tryd.isAgg88
  z46 := Tryd.sizeOf88
  v46 := Tryd.zeroValue88
  t105 := Tryd.underlying131
  a105 := Tryd.isAgg131
  z105 := Tryd.sizeOf131
  v105 := Tryd.zeroValue131
  t116 := Tryd.underlying120
  a116 := Tryd.isAgg120
  z116 := Tryd.sizeOf120
  t117 := Tryd.underlying121
  a117 := Tryd.isAgg121
  z117 := Tryd.sizeOf121
  v117 := Tryd.zeroValue121
  t119 := Tryd.underlying135
  a119 := Tryd.isAgg135
  z119 := Tryd.sizeOf135
  t124 := Tryd.underlying124
  a124 := Tryd.isAgg124
  z124 := Tryd.sizeOf124
  v124 := Tryd.zeroValue124
  t138 := Tryd.underlying137
  a138 := Tryd.isAgg137
  z138 := Tryd.sizeOf137
  v138 := Tryd.zeroValue137
  t139 := Tryd.underlying138
  a139 := Tryd.isAgg138
  z139 := Tryd.sizeOf138
  v139 := Tryd.zeroValue138
  g3 := by kernel_rfl
  g4 := by kernel_rfl }
open Go.RowKit Go.Lib in
theorem Tryd.strings_Trim (s : ByteArray) (w : World) (hs : s.size ≤ 9223372036854775807) :
    Calls Tryd.prog 56 #[.string s, .string ⟨#[0]⟩] w fun e w' => e = .returned (.string ⟨(Lib.trimB s.data.toList 0).toArray⟩) ∧ (w' = w ∨ w' = w.drew) := Any.strings_Trim_one Tryd.lays160 s 0 (by decide) w hs
end Go.Proofs
