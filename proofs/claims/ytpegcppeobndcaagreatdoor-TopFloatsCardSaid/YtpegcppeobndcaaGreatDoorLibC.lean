/- The library's contracts at this dump (written by the kit's lay-plain, the needed ones alone): CutPrefix, Split. -/
import Derived.Shelf.Strings.Split
import Derived.Shelf.Small.Wraps
import Derived.Shelf.LaysM
import Derived.Test.YtpegcppeobndcaaGreatDoorProg
namespace Go.Proofs
open Go.Shelf
def Tryz.lays103_ren : Go.Shelf.Ren := ⟨fun | 103 => 29 | 210 => 64 | 206 => 108 | n => n, fun | 9 => 9 | 4 => 4 | 24 => 64 | 3 => 3 | n => n, fun | n => n⟩
theorem Tryz.lays103 : Go.Proofs.Lays.n103 Tryz.prog Tryz.lays103_ren := {
 mixed := by kernel_rfl
 f103 := Tryz.func29.trans (congrArg some (by kernel_rfl))
 f206 := Tryz.func108.trans (congrArg some (by kernel_rfl))
 f210 := Tryz.func64.trans (congrArg some (by kernel_rfl))
 t3 := Tryz.underlying3
 a3 := Tryz.isAgg3
 z3 := Tryz.sizeOf3
 v3 := Tryz.zeroValue3
 t4 := Tryz.underlying4
 a4 := Tryz.isAgg4
 z4 := Tryz.sizeOf4
 v4 := Tryz.zeroValue4
 t9 := Tryz.underlying9
 a9 := Tryz.isAgg9
 z9 := Tryz.sizeOf9
 v9 := Tryz.zeroValue9
 t24 := Tryz.underlying64
 a24 := Tryz.isAgg64
 z24 := Tryz.sizeOf64
 v24 := Tryz.zeroValue64 }
open Go.RowKit in
theorem Tryz.strings_CutPrefix (s p : ByteArray) (w : World) :
  Calls Tryz.prog 29 #[.string s, .string p] w fun e w' => e = .returned (.tuple #[.string ⟨(Lib.trimPrefix s.data.toList p.data.toList).toArray⟩, .bool (Lib.hasPrefix s.data.toList p.data.toList)]) ∧ w' = w := Any.strings_CutPrefix Tryz.lays103 s p w
def Tryz.lays146_ren : Go.Shelf.Ren := ⟨fun | 146 => 30 | 221 => 65 | 268 => 109 | 138 => 110 | 143 => 111 | 195 => 152 | 197 => 153 | 218 => 154 | 219 => 155 | 260 => 175 | 217 => 176 | 225 => 177 | 224 => 178 | 267 => 179 | 266 => 202 | 314 => 203 | n => n, fun | 9 => 9 | 31 => 66 | 3 => 3 | 4 => 4 | 0 => 0 | 105 => 190 | 21 => 21 | 5 => 5 | 46 => 90 | 119 => 237 | 139 => 240 | 138 => 239 | 146 => 184 | 51 => 94 | n => n, fun | 1 => 0 | 3 => 2 | 4 => 3 | n => n⟩
theorem Tryz.lays146 : Go.Proofs.Lays.n146 Tryz.prog Tryz.lays146_ren := {
 mixed := by kernel_rfl
 f138 := Tryz.func110.trans (congrArg some (by kernel_rfl))
 f143 := Tryz.func111.trans (congrArg some (by kernel_rfl))
 f146 := Tryz.func30.trans (congrArg some (by kernel_rfl))
 f195 := Tryz.func152.trans (congrArg some (by kernel_rfl))
 f197 := Tryz.func153.trans (congrArg some (by kernel_rfl))
 f217 := Tryz.func176.trans (congrArg some (by kernel_rfl))
 f218 := Tryz.func154.trans (congrArg some (by kernel_rfl))
 f219 := Tryz.func155.trans (congrArg some (by kernel_rfl))
 f221 := Tryz.func65.trans (congrArg some (by kernel_rfl))
 f224 := Tryz.func178.trans (congrArg some (by kernel_rfl))
 f225 := Tryz.func177.trans (congrArg some (by kernel_rfl))
 f260 := Tryz.func175.trans (congrArg some (by kernel_rfl))
 f266 := Tryz.func202.trans (congrArg some (by kernel_rfl))
 f267 := Tryz.func179.trans (congrArg some (by kernel_rfl))
 f268 := Tryz.func109.trans (congrArg some (by kernel_rfl))
 f314 := Tryz.func203.trans (congrArg some (by kernel_rfl))
 t0 := Tryz.underlying0
 a0 := Tryz.isAgg0
 z0 := Tryz.sizeOf0
 v0 := Tryz.zeroValue0
 t3 := Tryz.underlying3
 a3 := Tryz.isAgg3
 z3 := Tryz.sizeOf3
 v3 := Tryz.zeroValue3
 t4 := Tryz.underlying4
 a4 := Tryz.isAgg4
 z4 := Tryz.sizeOf4
 v4 := Tryz.zeroValue4
 t5 := Tryz.underlying5
 a5 := Tryz.isAgg5
 z5 := Tryz.sizeOf5
 v5 := Tryz.zeroValue5
 t9 := Tryz.underlying9
 a9 := Tryz.isAgg9
 z9 := Tryz.sizeOf9
 v9 := Tryz.zeroValue9
 t21 := Tryz.underlying21
 a21 := Tryz.isAgg21
 z21 := Tryz.sizeOf21
 v21 := Tryz.zeroValue21
 t31 := Tryz.underlying66
 a31 := Tryz.isAgg66
 z31 := Tryz.sizeOf66
 v31 := Tryz.zeroValue66
 t46 := Tryz.underlying90
 a46 := Tryz.isAgg90
 z46 := Tryz.sizeOf90
 v46 := Tryz.zeroValue90
 t51 := Tryz.underlying94
 a51 := Tryz.isAgg94
 z51 := Tryz.sizeOf94
 v51 := Tryz.zeroValue94
 t105 := Tryz.underlying190
 a105 := Tryz.isAgg190
 z105 := Tryz.sizeOf190
 v105 := Tryz.zeroValue190
 t119 := Tryz.underlying237
 a119 := Tryz.isAgg237
 z119 := Tryz.sizeOf237
 t138 := Tryz.underlying239
 a138 := Tryz.isAgg239
 z138 := Tryz.sizeOf239
 v138 := Tryz.zeroValue239
 t139 := Tryz.underlying240
 a139 := Tryz.isAgg240
 z139 := Tryz.sizeOf240
 v139 := Tryz.zeroValue240
 t146 := Tryz.underlying184
 a146 := Tryz.isAgg184
 z146 := Tryz.sizeOf184
 v146 := Tryz.zeroValue184
 g1 := by kernel_rfl
 g3 := by kernel_rfl
 g4 := by kernel_rfl }
open Go.RowKit Go.Lib in
theorem Tryz.strings_Split (s sep : ByteArray) (m : Int) (w : World) (hs : s.size < 4294967281) (hm : w.cell? ⟨0, 0, none⟩ = some (.int .i64 m)) (h1 : 1 ≤ sep.size) :
  Calls Tryz.prog 30 #[.string s, .string sep] w fun e w' =>
   e = .returned (.slice (some ⟨w.heap.size, 0, none⟩) (Lib.countB s sep + 1) (Lib.countB s sep + 1)) ∧ w' = w.alloc (.cells ((Lib.splitB sep 0 (Lib.countB s sep) s).map Value.string).toArray 9) := Any.strings_Split Tryz.lays146 (by kernel_rfl) s sep m w hs hm h1
end Go.Proofs
