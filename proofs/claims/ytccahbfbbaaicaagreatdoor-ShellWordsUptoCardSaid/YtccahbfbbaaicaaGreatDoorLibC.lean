/- The library's contracts at this dump (written by the kit's lay-plain, the needed ones alone): CutPrefix, Split. -/
import Derived.Shelf.Strings.Split
import Derived.Shelf.Small.Wraps
import Derived.Shelf.LaysM
import Derived.Test.YtccahbfbbaaicaaGreatDoorProg
namespace Go.Proofs
open Go.Shelf
def Tryz.lays103_ren : Go.Shelf.Ren := ⟨fun | 103 => 100 | 210 => 133 | 206 => 51 | n => n, fun | 9 => 9 | 4 => 4 | 24 => 143 | 3 => 3 | n => n, fun | n => n⟩
theorem Tryz.lays103 : Go.Proofs.Lays.n103 Tryz.prog Tryz.lays103_ren := {
 mixed := by kernel_rfl
 f103 := Tryz.func100.trans (congrArg some (by kernel_rfl))
 f206 := Tryz.func51.trans (congrArg some (by kernel_rfl))
 f210 := Tryz.func133.trans (congrArg some (by kernel_rfl))
 t3 := Tryz.underlying3
 a3 := Tryz.isAgg3
 z3 := Tryz.sizeOf3
 v3 := Tryz.zeroValue3
 t4 := Tryz.underlying4
 a4 := Tryz.isAgg4
 z4 := Tryz.sizeOf4
 v4 := Tryz.zeroValue4
 t9 := Tryz.underlying9
 a9 := Tryz.isAgg9
 z9 := Tryz.sizeOf9
 v9 := Tryz.zeroValue9
 t24 := Tryz.underlying143
 a24 := Tryz.isAgg143
 z24 := Tryz.sizeOf143
 v24 := Tryz.zeroValue143 }
open Go.RowKit in
theorem Tryz.strings_CutPrefix (s p : ByteArray) (w : World) :
  Calls Tryz.prog 100 #[.string s, .string p] w fun e w' => e = .returned (.tuple #[.string ⟨(Lib.trimPrefix s.data.toList p.data.toList).toArray⟩, .bool (Lib.hasPrefix s.data.toList p.data.toList)]) ∧ w' = w := Any.strings_CutPrefix Tryz.lays103 s p w
def Tryz.lays146_ren : Go.Shelf.Ren := ⟨fun | 146 => 13 | 221 => 19 | 268 => 30 | 138 => 31 | 143 => 32 | 195 => 55 | 197 => 56 | 218 => 57 | 219 => 58 | 260 => 79 | 217 => 54 | 225 => 80 | 224 => 81 | 267 => 82 | 266 => 78 | 314 => 111 | n => n, fun | 9 => 9 | 31 => 24 | 3 => 3 | 4 => 4 | 0 => 0 | 105 => 95 | 21 => 21 | 5 => 5 | 46 => 39 | 119 => 158 | 139 => 161 | 138 => 160 | 146 => 88 | 51 => 87 | n => n, fun | 1 => 0 | 3 => 1 | 4 => 2 | n => n⟩
theorem Tryz.lays146 : Go.Proofs.Lays.n146 Tryz.prog Tryz.lays146_ren := {
 mixed := by kernel_rfl
 f138 := Tryz.func31.trans (congrArg some (by kernel_rfl))
 f143 := Tryz.func32.trans (congrArg some (by kernel_rfl))
 f146 := Tryz.func13.trans (congrArg some (by kernel_rfl))
 f195 := Tryz.func55.trans (congrArg some (by kernel_rfl))
 f197 := Tryz.func56.trans (congrArg some (by kernel_rfl))
 f217 := Tryz.func54.trans (congrArg some (by kernel_rfl))
 f218 := Tryz.func57.trans (congrArg some (by kernel_rfl))
 f219 := Tryz.func58.trans (congrArg some (by kernel_rfl))
 f221 := Tryz.func19.trans (congrArg some (by kernel_rfl))
 f224 := Tryz.func81.trans (congrArg some (by kernel_rfl))
 f225 := Tryz.func80.trans (congrArg some (by kernel_rfl))
 f260 := Tryz.func79.trans (congrArg some (by kernel_rfl))
 f266 := Tryz.func78.trans (congrArg some (by kernel_rfl))
 f267 := Tryz.func82.trans (congrArg some (by kernel_rfl))
 f268 := Tryz.func30.trans (congrArg some (by kernel_rfl))
 f314 := Tryz.func111.trans (congrArg some (by kernel_rfl))
 t0 := Tryz.underlying0
 a0 := Tryz.isAgg0
 z0 := Tryz.sizeOf0
 v0 := Tryz.zeroValue0
 t3 := Tryz.underlying3
 a3 := Tryz.isAgg3
 z3 := Tryz.sizeOf3
 v3 := Tryz.zeroValue3
 t4 := Tryz.underlying4
 a4 := Tryz.isAgg4
 z4 := Tryz.sizeOf4
 v4 := Tryz.zeroValue4
 t5 := Tryz.underlying5
 a5 := Tryz.isAgg5
 z5 := Tryz.sizeOf5
 v5 := Tryz.zeroValue5
 t9 := Tryz.underlying9
 a9 := Tryz.isAgg9
 z9 := Tryz.sizeOf9
 v9 := Tryz.zeroValue9
 t21 := Tryz.underlying21
 a21 := Tryz.isAgg21
 z21 := Tryz.sizeOf21
 v21 := Tryz.zeroValue21
 t31 := Tryz.underlying24
 a31 := Tryz.isAgg24
 z31 := Tryz.sizeOf24
 v31 := Tryz.zeroValue24
 t46 := Tryz.underlying39
 a46 := Tryz.isAgg39
 z46 := Tryz.sizeOf39
 v46 := Tryz.zeroValue39
 t51 := Tryz.underlying87
 a51 := Tryz.isAgg87
 z51 := Tryz.sizeOf87
 v51 := Tryz.zeroValue87
 t105 := Tryz.underlying95
 a105 := Tryz.isAgg95
 z105 := Tryz.sizeOf95
 v105 := Tryz.zeroValue95
 t119 := Tryz.underlying158
 a119 := Tryz.isAgg158
 z119 := Tryz.sizeOf158
 t138 := Tryz.underlying160
 a138 := Tryz.isAgg160
 z138 := Tryz.sizeOf160
 v138 := Tryz.zeroValue160
 t139 := Tryz.underlying161
 a139 := Tryz.isAgg161
 z139 := Tryz.sizeOf161
 v139 := Tryz.zeroValue161
 t146 := Tryz.underlying88
 a146 := Tryz.isAgg88
 z146 := Tryz.sizeOf88
 v146 := Tryz.zeroValue88
 g1 := by kernel_rfl
 g3 := by kernel_rfl
 g4 := by kernel_rfl }
open Go.RowKit Go.Lib in
theorem Tryz.strings_Split (s sep : ByteArray) (m : Int) (w : World) (hs : s.size < 4294967281) (hm : w.cell? ⟨0, 0, none⟩ = some (.int .i64 m)) (h1 : 1 ≤ sep.size) :
  Calls Tryz.prog 13 #[.string s, .string sep] w fun e w' =>
   e = .returned (.slice (some ⟨w.heap.size, 0, none⟩) (Lib.countB s sep + 1) (Lib.countB s sep + 1)) ∧ w' = w.alloc (.cells ((Lib.splitB sep 0 (Lib.countB s sep) s).map Value.string).toArray 9) := Any.strings_Split Tryz.lays146 (by kernel_rfl) s sep m w hs hm h1
end Go.Proofs
