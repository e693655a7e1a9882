/- The shelf's contracts that 'FnExactDecodeLinks' leans on, laid at this program by the kit's tools (in plain words). No condition. -/
import Derived.Shelf.Small.Wraps
import Derived.Shelf.Strings.SplitShaped
import Derived.Ground.Names2Prog
import Derived.Ground.SlgnProg
import Derived.Test.YtgklhpocmnjpfaaDoorProg
namespace Go.Proofs
open Go.Shelf
def Tryd.lays103_ren : Go.Shelf.Ren := ⟨fun | 103 => 156 | 210 => 168 | 206 => 171 | n => n, fun | 9 => 9 | 4 => 4 | 24 => 93 | 3 => 3 | n => n, fun | n => n⟩
theorem Tryd.lays103 : Go.Proofs.Lays.n103 Tryd.prog Tryd.lays103_ren := {
  mixed := by kernel_rfl
  f103 := Tryd.func156.trans (congrArg some (by kernel_rfl))
  f206 := Tryd.func171.trans (congrArg some (by kernel_rfl))
  f210 := Tryd.func168.trans (congrArg some (by kernel_rfl))
  t3 := Tryd.underlying3
  a3 := Tryd.isAgg3
  z3 := Tryd.sizeOf3
  v3 := Tryd.zeroValue3
  t4 := Tryd.underlying4
  a4 := Tryd.isAgg4
  z4 := Tryd.sizeOf4
  v4 := Tryd.zeroValue4
  t9 := Tryd.underlying9
  a9 := Tryd.isAgg9
  z9 := Tryd.sizeOf9
  v9 := Tryd.zeroValue9
  t24 := Tryd.underlying93
  a24 := Tryd.isAgg93
  z24 := Tryd.sizeOf93
  v24 := Tryd.zeroValue93 }
open Go.RowKit in
theorem Tryd.strings_CutPrefix (s p : ByteArray) (w : World) :
    Calls Tryd.prog 156 #[.string s, .string p] w fun e w' => e = .returned (.tuple #[.string ⟨(Lib.trimPrefix s.data.toList p.data.toList).toArray⟩, .bool (Lib.hasPrefix s.data.toList p.data.toList)]) ∧ w' = w := Any.strings_CutPrefix Tryd.lays103 s p w
def Tryd.laysM146_ren : Go.Shelf.Ren := ⟨fun | 146 => 157 | 221 => 169 | 268 => 172 | 138 => 173 | 143 => 174 | 195 => 175 | 197 => 176 | 218 => 177 | 219 => 129 | 260 => 178 | 217 => 140 | 225 => 141 | 224 => 142 | 267 => 143 | 266 => 159 | 314 => 160 | n => n, fun | 9 => 9 | 31 => 52 | 3 => 3 | 4 => 4 | 0 => 0 | 105 => 197 | 21 => 21 | 5 => 5 | 46 => 162 | 119 => 199 | 139 => 202 | 138 => 201 | 146 => 180 | 51 => 171 | n => n, fun | 1 => 0 | 3 => 6 | 4 => 7 | n => n⟩
theorem Tryd.laysM146 : Go.Proofs.LaysM.n146 Tryd.prog Tryd.laysM146_ren := {
  mixed := by kernel_rfl
  f138 := Tryd.func173.trans (congrArg some (by kernel_rfl))
  f143 := Tryd.func174.trans (congrArg some (by kernel_rfl))
  f146 := Tryd.func157.trans (congrArg some (by kernel_rfl))
  f195 := Tryd.func175.trans (congrArg some (by kernel_rfl))
  f197 := Tryd.func176.trans (congrArg some (by kernel_rfl))
  f217 := Tryd.func140.trans (congrArg some (by kernel_rfl))
  f218 := Tryd.func177.trans (congrArg some (by kernel_rfl))
  f219 := Tryd.func129.trans (congrArg some (by kernel_rfl))
  f221 := Tryd.func169.trans (congrArg some (by kernel_rfl))
  f224 := Tryd.func142.trans (congrArg some (by kernel_rfl))
  f225 := Tryd.func141.trans (congrArg some (by kernel_rfl))
  f260 := Tryd.func178.trans (congrArg some (by kernel_rfl))
  f266 := Tryd.func159.trans (congrArg some (by kernel_rfl))
  f267 := Tryd.func143.trans (congrArg some (by kernel_rfl))
  f268 := Tryd.func172.trans (congrArg some (by kernel_rfl))
  f314 := Tryd.func160.trans (congrArg some (by kernel_rfl))
  t0 := Tryd.underlying0
  a0 := Tryd.isAgg0
  z0 := Tryd.sizeOf0
  v0 := Tryd.zeroValue0
  t3 := Tryd.underlying3
  a3 := Tryd.isAgg3
  z3 := Tryd.sizeOf3
  v3 := Tryd.zeroValue3
  t4 := Tryd.underlying4
  a4 := Tryd.isAgg4
  z4 := Tryd.sizeOf4
  v4 := Tryd.zeroValue4
  t5 := Tryd.underlying5
  a5 := Tryd.isAgg5
  z5 := Tryd.sizeOf5
  v5 := Tryd.zeroValue5
  t9 := Tryd.underlying9
  a9 := Tryd.isAgg9
  z9 := Tryd.sizeOf9
  v9 := Tryd.zeroValue9
  t21 := Tryd.underlying21
  a21 := Tryd.isAgg21
  z21 := Tryd.sizeOf21
  v21 := Tryd.zeroValue21
  t31 := Tryd.underlying52
  a31 := Tryd.isAgg52
  z31 := Tryd.sizeOf52
  v31 := Tryd.zeroValue52
  t46 := Tryd.underlying162
  a46 := Tryd.isAgg162
  z46 := Tryd.sizeOf162
  v46 := Tryd.zeroValue162
  t51 := Tryd.underlying171
  a51 := Tryd.isAgg171
  z51 := Tryd.sizeOf171
  v51 := Tryd.zeroValue171
  t105 := Tryd.underlying197
  a105 := Tryd.isAgg197
  z105 := Tryd.sizeOf197
  v105 := Tryd.zeroValue197
  t119 := Tryd.underlying199
  a119 := Tryd.isAgg199
  z119 := Tryd.sizeOf199
  t138 := Tryd.underlying201
  a138 := Tryd.isAgg201
  z138 := Tryd.sizeOf201
  v138 := Tryd.zeroValue201
  t139 := Tryd.underlying202
  a139 := Tryd.isAgg202
  z139 := Tryd.sizeOf202
  v139 := Tryd.zeroValue202
  t146 := Tryd.underlying180
  a146 := Tryd.isAgg180
  z146 := Tryd.sizeOf180
  v146 := Tryd.zeroValue180
  g1 := by kernel_rfl
  g3 := by kernel_rfl
  g4 := by kernel_rfl
  i0 := by kernel_rfl
  i3 := by kernel_rfl
  i4 := by kernel_rfl
  i5 := by kernel_rfl
  i9 := by kernel_rfl
  i21 := by kernel_rfl
  i31 := by kernel_rfl
  i46 := by kernel_rfl
  i51 := by kernel_rfl
  i105 := by kernel_rfl
  i138 := by kernel_rfl
  i139 := by kernel_rfl
  i146 := by kernel_rfl
  m1 := by kernel_rfl
  s1_3 := fun w h => Go.Proofs.cell_of_shapedOpen_int (zero := #[.int .i64 0]) (t := 3) h (of_decide_eq_true (by kernel_rfl)) (by kernel_rfl) rfl (by kernel_rfl) (by kernel_rfl) Tryd.underlying3
  m3 := by kernel_rfl
  m4 := by kernel_rfl }
open Go.RowKit Go.Lib in
theorem Tryd.strings_Split_shaped (s sep : ByteArray) (w : World) (h : w.ShapedOpen Tryd.prog) (hs : s.size < 4294967281) (h1 : 1 ≤ sep.size) :
    Calls Tryd.prog 157 #[.string s, .string sep] w fun e w' =>
      e = .returned (.slice (some ⟨w.heap.size, 0, none⟩) (Lib.countB s sep + 1) (Lib.countB s sep + 1)) ∧ w' = w.alloc (.cells ((Lib.splitB sep 0 (Lib.countB s sep) s).map Value.string).toArray 9) := Any.strings_Split_shaped Tryd.laysM146 s sep w h hs h1
end Go.Proofs
