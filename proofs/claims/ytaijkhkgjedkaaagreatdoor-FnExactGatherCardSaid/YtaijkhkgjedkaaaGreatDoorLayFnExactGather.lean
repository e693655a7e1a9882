/- The shelf's contracts that 'FnExactGather' leans on, laid at this program by the kit's tools (in plain words). No condition. -/
import Derived.Shelf.Strings.Trim
import Derived.Shelf.Strings.Search3
import Derived.Shelf.Strings.Builder1
import Derived.Test.YtaijkhkgjedkaaaGreatDoorProg
namespace Go.Proofs
open Go.Shelf
def Tryz.lays169_ren : Go.Shelf.Ren := ⟨fun | 169 => 165 | n => n, fun | 70 => 201 | 9 => 9 | 0 => 0 | 72 => 203 | 37 => 165 | 127 => 250 | 3 => 3 | 5 => 5 | n => n, fun | n => n⟩
theorem Tryz.lays169 : Go.Proofs.Lays.n169 Tryz.prog Tryz.lays169_ren := {
  mixed := by kernel_rfl
  f169 := Tryz.func165.trans (congrArg some (by kernel_rfl))
  t0 := Tryz.underlying0
  a0 := Tryz.isAgg0
  z0 := Tryz.sizeOf0
  v0 := Tryz.zeroValue0
  t3 := Tryz.underlying3
  a3 := Tryz.isAgg3
  z3 := Tryz.sizeOf3
  v3 := Tryz.zeroValue3
  t9 := Tryz.underlying9
  a9 := Tryz.isAgg9
  z9 := Tryz.sizeOf9
  v9 := Tryz.zeroValue9
  t37 := Tryz.underlying165
  a37 := Tryz.isAgg165
  z37 := Tryz.sizeOf165
  v37 := Tryz.zeroValue165
  t70 := Tryz.underlying201
  a70 := Tryz.isAgg201
  z70 := Tryz.sizeOf201
  v70 := Tryz.zeroValue201
  t72 := Tryz.underlying203
  a72 := Tryz.isAgg203
  z72 := Tryz.sizeOf203
  v72 := Tryz.zeroValue203
  t127 := Tryz.underlying250
  a127 := Tryz.isAgg250
  z127 := Tryz.sizeOf250
  v127 := Tryz.zeroValue250 }
theorem Tryz.Builder_Extra_169 : Builder.Extra Tryz.prog Tryz.lays169_ren := {
  sizeBuilder := by kernel_rfl
  liesBuilder := by kernel_rfl
  t5 := Tryz.underlying5
  a5 := Tryz.isAgg5
  z5 := Tryz.sizeOf5
  v5 := Tryz.zeroValue5
  infoByte := by kernel_rfl
  cellsByte := by kernel_rfl
  sizeByte := by kernel_rfl
  neB5 := by decide }
open Go.RowKit in
theorem Tryz.Builder_String (B b : Nat) (l : List UInt8) (w : World) (h : Lib.IsBuilder 203 5 B b (Lib.byteCells l) w) (h0 : l ≠ []) :
    Calls Tryz.prog 165 #[.pointer (some ⟨b, 0, none⟩)] w fun e w' => e = .returned (.string ⟨l.toArray⟩) ∧ Below B w w' := Any.Builder_String Tryz.lays169 Tryz.Builder_Extra_169 B b l w h h0
def Tryz.lays162_ren : Go.Shelf.Ren := ⟨fun | 162 => 234 | 232 => 284 | 227 => 285 | 234 => 286 | 236 => 287 | 228 => 305 | 271 => 306 | 151 => 307 | 120 => 320 | 197 => 321 | 152 => 322 | 260 => 329 | 137 => 330 | 119 => 331 | 224 => 310 | 225 => 309 | 217 => 308 | 266 => 323 | n => n, fun | 9 => 9 | 4 => 4 | 3 => 3 | 5 => 5 | 117 => 278 | 116 => 277 | 0 => 0 | 124 => 281 | 21 => 21 | 105 => 296 | 46 => 242 | 119 => 316 | 139 => 319 | 138 => 318 | n => n, fun | 3 => 4 | 4 => 5 | n => n⟩
theorem Tryz.lays162 : Go.Proofs.Lays.n162 Tryz.prog Tryz.lays162_ren := {
  mixed := by kernel_rfl
  f119 := Tryz.func331.trans (congrArg some (by kernel_rfl))
  f120 := Tryz.func320.trans (congrArg some (by kernel_rfl))
  f137 := Tryz.func330.trans (congrArg some (by kernel_rfl))
  f151 := Tryz.func307.trans (congrArg some (by kernel_rfl))
  f152 := Tryz.func322.trans (congrArg some (by kernel_rfl))
  f162 := Tryz.func234.trans (congrArg some (by kernel_rfl))
  f197 := Tryz.func321.trans (congrArg some (by kernel_rfl))
  f217 := Tryz.func308.trans (congrArg some (by kernel_rfl))
  f224 := Tryz.func310.trans (congrArg some (by kernel_rfl))
  f225 := Tryz.func309.trans (congrArg some (by kernel_rfl))
  f227 := Tryz.func285.trans (congrArg some (by kernel_rfl))
  f228 := Tryz.func305.trans (congrArg some (by kernel_rfl))
  f232 := Tryz.func284.trans (congrArg some (by kernel_rfl))
  f234 := Tryz.func286.trans (congrArg some (by kernel_rfl))
  f236 := Tryz.func287.trans (congrArg some (by kernel_rfl))
  f260 := Tryz.func329.trans (congrArg some (by kernel_rfl))
  f266 := Tryz.func323.trans (congrArg some (by kernel_rfl))
  f271 := Tryz.func306.trans (congrArg some (by kernel_rfl))
  t0 := Tryz.underlying0
  a0 := Tryz.isAgg0
  z0 := Tryz.sizeOf0
  v0 := Tryz.zeroValue0
  t3 := Tryz.underlying3
  a3 := Tryz.isAgg3
  z3 := Tryz.sizeOf3
  v3 := Tryz.zeroValue3
  t4 := Tryz.underlying4
  a4 := Tryz.isAgg4
  z4 := Tryz.sizeOf4
  v4 := Tryz.zeroValue4
  t5 := Tryz.underlying5
  a5 := Tryz.isAgg5
  z5 := Tryz.sizeOf5
  v5 := Tryz.zeroValue5
  t9 := Tryz.underlying9
  a9 := Tryz.isAgg9
  z9 := Tryz.sizeOf9
  v9 := Tryz.zeroValue9
  t21 := Tryz.underlying21
  a21 := Tryz.isAgg21
  z21 := Tryz.sizeOf21
  v21 := Tryz.zeroValue21
  t46 := Tryz.underlying242
  a46 := Tryz.isAgg242
  z46 := Tryz.sizeOf242
  v46 := Tryz.zeroValue242
  t105 := Tryz.underlying296
  a105 := Tryz.isAgg296
  z105 := Tryz.sizeOf296
  v105 := Tryz.zeroValue296
  t116 := Tryz.underlying277
  a116 := Tryz.isAgg277
  z116 := Tryz.sizeOf277
  t117 := Tryz.underlying278
  a117 := Tryz.isAgg278
  z117 := Tryz.sizeOf278
  v117 := Tryz.zeroValue278
  t119 := Tryz.underlying316
  a119 := Tryz.isAgg316
  z119 := Tryz.sizeOf316
  t124 := Tryz.underlying281
  a124 := Tryz.isAgg281
  z124 := Tryz.sizeOf281
  v124 := Tryz.zeroValue281
  t138 := Tryz.underlying318
  a138 := Tryz.isAgg318
  z138 := Tryz.sizeOf318
  v138 := Tryz.zeroValue318
  t139 := Tryz.underlying319
  a139 := Tryz.isAgg319
  z139 := Tryz.sizeOf319
  v139 := Tryz.zeroValue319
  g3 := by kernel_rfl
  g4 := by kernel_rfl }
open Go.RowKit in
theorem Tryz.strings_TrimRight_one (s : ByteArray) (c : UInt8) (hc : c.toNat < 128) (w : World) (hs : s.size ≤ 9223372036854775807) :
    Calls Tryz.prog 234 #[.string s, .string ⟨#[c]⟩] w fun e w' => e = .returned (.string ⟨(Lib.trimRightB s.data.toList c).toArray⟩) ∧ w' = w := Any.strings_TrimRight_one Tryz.lays162 s c hc w hs
def Tryz.lays144_ren : Go.Shelf.Ren := ⟨fun | 144 => 170 | 143 => 243 | 219 => 290 | 217 => 308 | 225 => 309 | 224 => 310 | 267 => 311 | 266 => 323 | 314 => 324 | n => n, fun | 9 => 9 | 4 => 4 | 3 => 3 | 5 => 5 | 46 => 242 | 146 => 309 | 51 => 304 | n => n, fun | 1 => 0 | n => n⟩
theorem Tryz.lays144 : Go.Proofs.Lays.n144 Tryz.prog Tryz.lays144_ren := {
  mixed := by kernel_rfl
  f143 := Tryz.func243.trans (congrArg some (by kernel_rfl))
  f144 := Tryz.func170.trans (congrArg some (by kernel_rfl))
  f217 := Tryz.func308.trans (congrArg some (by kernel_rfl))
  f219 := Tryz.func290.trans (congrArg some (by kernel_rfl))
  f224 := Tryz.func310.trans (congrArg some (by kernel_rfl))
  f225 := Tryz.func309.trans (congrArg some (by kernel_rfl))
  f266 := Tryz.func323.trans (congrArg some (by kernel_rfl))
  f267 := Tryz.func311.trans (congrArg some (by kernel_rfl))
  f314 := Tryz.func324.trans (congrArg some (by kernel_rfl))
  t3 := Tryz.underlying3
  a3 := Tryz.isAgg3
  z3 := Tryz.sizeOf3
  v3 := Tryz.zeroValue3
  t4 := Tryz.underlying4
  a4 := Tryz.isAgg4
  z4 := Tryz.sizeOf4
  v4 := Tryz.zeroValue4
  t5 := Tryz.underlying5
  a5 := Tryz.isAgg5
  z5 := Tryz.sizeOf5
  v5 := Tryz.zeroValue5
  t9 := Tryz.underlying9
  a9 := Tryz.isAgg9
  z9 := Tryz.sizeOf9
  v9 := Tryz.zeroValue9
  t46 := Tryz.underlying242
  a46 := Tryz.isAgg242
  z46 := Tryz.sizeOf242
  v46 := Tryz.zeroValue242
  t51 := Tryz.underlying304
  a51 := Tryz.isAgg304
  z51 := Tryz.sizeOf304
  v51 := Tryz.zeroValue304
  t146 := Tryz.underlying309
  a146 := Tryz.isAgg309
  z146 := Tryz.sizeOf309
  v146 := Tryz.zeroValue309
  g1 := by kernel_rfl }
open Go.RowKit Go.Lib in
theorem Tryz.strings_Contains_one (s : ByteArray) (c : UInt8) (w : World) :
    Calls Tryz.prog 170 #[.string s, .string ⟨#[c]⟩] w fun e w' => e = .returned (.bool (decide (0 ≤ Lib.indexByte s.data.toList c))) ∧ w' = w := Any.strings_Contains_one Tryz.lays144 s c w
def Tryz.h240_ren : Go.Shelf.Ren := ⟨fun | 240 => 237 | 276 => 288 | n => n, fun | 0 => 0 | 4 => 4 | 9 => 9 | 20 => 20 | 37 => 165 | 70 => 201 | 72 => 203 | 164 => 282 | n => n, fun | n => n⟩
theorem Tryz.h240 : Go.Proofs.Lays.n240 Tryz.prog Tryz.h240_ren := {
  mixed := by kernel_rfl
  f240 := Tryz.func237.trans (congrArg some (by kernel_rfl))
  f276 := Tryz.func288.trans (congrArg some (by kernel_rfl))
  t0 := Tryz.underlying0
  a0 := Tryz.isAgg0
  z0 := Tryz.sizeOf0
  v0 := Tryz.zeroValue0
  t4 := Tryz.underlying4
  a4 := Tryz.isAgg4
  z4 := Tryz.sizeOf4
  v4 := Tryz.zeroValue4
  t9 := Tryz.underlying9
  a9 := Tryz.isAgg9
  z9 := Tryz.sizeOf9
  v9 := Tryz.zeroValue9
  t20 := Tryz.underlying20
  a20 := Tryz.isAgg20
  z20 := Tryz.sizeOf20
  v20 := Tryz.zeroValue20
  t70 := Tryz.underlying201
  a70 := Tryz.isAgg201
  z70 := Tryz.sizeOf201
  v70 := Tryz.zeroValue201
  t72 := Tryz.underlying203
  a72 := Tryz.isAgg203
  z72 := Tryz.sizeOf203
  v72 := Tryz.zeroValue203
  t164 := Tryz.underlying282
  a164 := Tryz.isAgg282
  z164 := Tryz.sizeOf282
  v164 := Tryz.zeroValue282 }
theorem Tryz.h240_x : Builder.X72 Tryz.prog Tryz.h240_ren := {
  sizeBuilder := by kernel_rfl
  liesBuilder := by kernel_rfl }
end Go.Proofs
