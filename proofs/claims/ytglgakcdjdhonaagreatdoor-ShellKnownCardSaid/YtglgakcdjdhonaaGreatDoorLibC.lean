/- The library's contracts at this dump (written by the kit's lay-plain, the needed ones alone): CutPrefix, Split. -/
import Derived.Shelf.Strings.Split
import Derived.Shelf.Small.Wraps
import Derived.Shelf.LaysM
import Derived.Test.YtglgakcdjdhonaaGreatDoorProg
namespace Go.Proofs
open Go.Shelf
def Tryz.lays103_ren : Go.Shelf.Ren := ⟨fun | 103 => 116 | 210 => 152 | 206 => 59 | n => n, fun | 9 => 9 | 4 => 4 | 24 => 155 | 3 => 3 | n => n, fun | n => n⟩
theorem Tryz.lays103 : Go.Proofs.Lays.n103 Tryz.prog Tryz.lays103_ren := {
 mixed := by kernel_rfl
 f103 := Tryz.func116.trans (congrArg some (by kernel_rfl))
 f206 := Tryz.func59.trans (congrArg some (by kernel_rfl))
 f210 := Tryz.func152.trans (congrArg some (by kernel_rfl))
 t3 := Tryz.underlying3
 a3 := Tryz.isAgg3
 z3 := Tryz.sizeOf3
 v3 := Tryz.zeroValue3
 t4 := Tryz.underlying4
 a4 := Tryz.isAgg4
 z4 := Tryz.sizeOf4
 v4 := Tryz.zeroValue4
 t9 := Tryz.underlying9
 a9 := Tryz.isAgg9
 z9 := Tryz.sizeOf9
 v9 := Tryz.zeroValue9
 t24 := Tryz.underlying155
 a24 := Tryz.isAgg155
 z24 := Tryz.sizeOf155
 v24 := Tryz.zeroValue155 }
open Go.RowKit in
theorem Tryz.strings_CutPrefix (s p : ByteArray) (w : World) :
  Calls Tryz.prog 116 #[.string s, .string p] w fun e w' => e = .returned (.tuple #[.string ⟨(Lib.trimPrefix s.data.toList p.data.toList).toArray⟩, .bool (Lib.hasPrefix s.data.toList p.data.toList)]) ∧ w' = w := Any.strings_CutPrefix Tryz.lays103 s p w
def Tryz.lays146_ren : Go.Shelf.Ren := ⟨fun | 146 => 12 | 221 => 22 | 268 => 37 | 138 => 38 | 143 => 39 | 195 => 65 | 197 => 66 | 218 => 67 | 219 => 68 | 260 => 93 | 217 => 94 | 225 => 95 | 224 => 96 | 267 => 97 | 266 => 129 | 314 => 130 | n => n, fun | 9 => 9 | 31 => 23 | 3 => 3 | 4 => 4 | 0 => 0 | 105 => 107 | 21 => 21 | 5 => 5 | 46 => 47 | 119 => 170 | 139 => 173 | 138 => 172 | 146 => 98 | 51 => 82 | n => n, fun | 1 => 0 | 3 => 1 | 4 => 2 | n => n⟩
theorem Tryz.lays146 : Go.Proofs.Lays.n146 Tryz.prog Tryz.lays146_ren := {
 mixed := by kernel_rfl
 f138 := Tryz.func38.trans (congrArg some (by kernel_rfl))
 f143 := Tryz.func39.trans (congrArg some (by kernel_rfl))
 f146 := Tryz.func12.trans (congrArg some (by kernel_rfl))
 f195 := Tryz.func65.trans (congrArg some (by kernel_rfl))
 f197 := Tryz.func66.trans (congrArg some (by kernel_rfl))
 f217 := Tryz.func94.trans (congrArg some (by kernel_rfl))
 f218 := Tryz.func67.trans (congrArg some (by kernel_rfl))
 f219 := Tryz.func68.trans (congrArg some (by kernel_rfl))
 f221 := Tryz.func22.trans (congrArg some (by kernel_rfl))
 f224 := Tryz.func96.trans (congrArg some (by kernel_rfl))
 f225 := Tryz.func95.trans (congrArg some (by kernel_rfl))
 f260 := Tryz.func93.trans (congrArg some (by kernel_rfl))
 f266 := Tryz.func129.trans (congrArg some (by kernel_rfl))
 f267 := Tryz.func97.trans (congrArg some (by kernel_rfl))
 f268 := Tryz.func37.trans (congrArg some (by kernel_rfl))
 f314 := Tryz.func130.trans (congrArg some (by kernel_rfl))
 t0 := Tryz.underlying0
 a0 := Tryz.isAgg0
 z0 := Tryz.sizeOf0
 v0 := Tryz.zeroValue0
 t3 := Tryz.underlying3
 a3 := Tryz.isAgg3
 z3 := Tryz.sizeOf3
 v3 := Tryz.zeroValue3
 t4 := Tryz.underlying4
 a4 := Tryz.isAgg4
 z4 := Tryz.sizeOf4
 v4 := Tryz.zeroValue4
 t5 := Tryz.underlying5
 a5 := Tryz.isAgg5
 z5 := Tryz.sizeOf5
 v5 := Tryz.zeroValue5
 t9 := Tryz.underlying9
 a9 := Tryz.isAgg9
 z9 := Tryz.sizeOf9
 v9 := Tryz.zeroValue9
 t21 := Tryz.underlying21
 a21 := Tryz.isAgg21
 z21 := Tryz.sizeOf21
 v21 := Tryz.zeroValue21
 t31 := Tryz.underlying23
 a31 := Tryz.isAgg23
 z31 := Tryz.sizeOf23
 v31 := Tryz.zeroValue23
 t46 := Tryz.underlying47
 a46 := Tryz.isAgg47
 z46 := Tryz.sizeOf47
 v46 := Tryz.zeroValue47
 t51 := Tryz.underlying82
 a51 := Tryz.isAgg82
 z51 := Tryz.sizeOf82
 v51 := Tryz.zeroValue82
 t105 := Tryz.underlying107
 a105 := Tryz.isAgg107
 z105 := Tryz.sizeOf107
 v105 := Tryz.zeroValue107
 t119 := Tryz.underlying170
 a119 := Tryz.isAgg170
 z119 := Tryz.sizeOf170
 t138 := Tryz.underlying172
 a138 := Tryz.isAgg172
 z138 := Tryz.sizeOf172
 v138 := Tryz.zeroValue172
 t139 := Tryz.underlying173
 a139 := Tryz.isAgg173
 z139 := Tryz.sizeOf173
 v139 := Tryz.zeroValue173
 t146 := Tryz.underlying98
 a146 := Tryz.isAgg98
 z146 := Tryz.sizeOf98
 v146 := Tryz.zeroValue98
 g1 := by kernel_rfl
 g3 := by kernel_rfl
 g4 := by kernel_rfl }
open Go.RowKit Go.Lib in
theorem Tryz.strings_Split (s sep : ByteArray) (m : Int) (w : World) (hs : s.size < 4294967281) (hm : w.cell? ⟨0, 0, none⟩ = some (.int .i64 m)) (h1 : 1 ≤ sep.size) :
  Calls Tryz.prog 12 #[.string s, .string sep] w fun e w' =>
   e = .returned (.slice (some ⟨w.heap.size, 0, none⟩) (Lib.countB s sep + 1) (Lib.countB s sep + 1)) ∧ w' = w.alloc (.cells ((Lib.splitB sep 0 (Lib.countB s sep) s).map Value.string).toArray 9) := Any.strings_Split Tryz.lays146 (by kernel_rfl) s sep m w hs hm h1
end Go.Proofs
