/- The environment of 'FnExactSourcePaths' for the evaluator: kinds of elements, layouts of the functions that it reaches (printed by plan.py). No condition. -/
import Derived.Test.YtaijkhkgjedkaaaGreatDoorVdC
import Derived.Test.YtaijkhkgjedkaaaGreatDoorLayFnExactSourcePaths
import Derived.Test.YtaijkhkgjedkaaaGreatDoorProg
namespace Go.Ve.X
open Go.Proofs Go.Ve Go.RowKit
set_option linter.unusedVariables false
set_option maxRecDepth 100000
inductive Ty_Type : Type | mk (f_Kind : Int) (f_Size : Int) (f_Signed : Bool) (f_Big : Bool) (f_Names : List ByteArray) (f_Nums : List Int) (f_Members : List (ByteArray × Int × Ty_Type)) (f_Base : List Ty_Type) (f_Count : Int)
def Ty_Type.f_Kind : Ty_Type → Int | .mk x _ _ _ _ _ _ _ _ => x
def Ty_Type.f_Size : Ty_Type → Int | .mk _ x _ _ _ _ _ _ _ => x
def Ty_Type.f_Signed : Ty_Type → Bool | .mk _ _ x _ _ _ _ _ _ => x
def Ty_Type.f_Big : Ty_Type → Bool | .mk _ _ _ x _ _ _ _ _ => x
def Ty_Type.f_Names : Ty_Type → List ByteArray | .mk _ _ _ _ x _ _ _ _ => x
def Ty_Type.f_Nums : Ty_Type → List Int | .mk _ _ _ _ _ x _ _ _ => x
def Ty_Type.f_Members : Ty_Type → List (ByteArray × Int × Ty_Type) | .mk _ _ _ _ _ _ x _ _ => x
def Ty_Type.f_Base : Ty_Type → List Ty_Type | .mk _ _ _ _ _ _ _ x _ => x
def Ty_Type.f_Count : Ty_Type → Int | .mk _ _ _ _ _ _ _ _ x => x
theorem Ty_Type.eta (x : Ty_Type) : Ty_Type.mk x.f_Kind x.f_Size x.f_Signed x.f_Big x.f_Names x.f_Nums x.f_Members x.f_Base x.f_Count = x := by cases x; rfl
inductive El | e2 | e5 | e9 | e23 | e27 | e36 | e103 | e151 | e160 | e180 | e184 | e190 | e195 | z
def El.K : El → Type | .e2 => Int | .e5 => Int | .e9 => ByteArray | .e23 => List Int | .e27 => Ty_Type | .e36 => Ty_Type | .e103 => ByteArray × Int × List Int × List Int × List Int × List Int × List (List Int) × Int × List Int × List Int × List Int × List Int × List (List Int) | .e151 => ByteArray × Int × List Int × List Int × List Int × List Int × List (List Int) × Int × List Int × List Int × List Int × List Int × List (List Int) | .e160 => List Int | .e180 => ByteArray × Int × Ty_Type | .e184 => ByteArray × Int × Ty_Type | .e190 => Ty_Type × ByteArray | .e195 => List Int | .z => Unit
def El.sh : El → List TS | .e2 => [.int .i64] | .e5 => [.int .u8] | .e9 => [.str] | .e23 => [.arr 2] | .e27 => [.int .i64, .int .i64, .bool, .bool, .arr 9, .arr 2, .arr 180, .arr 27, .int .i64] | .e36 => [.int .i64, .int .i64, .bool, .bool, .arr 9, .arr 2, .arr 184, .arr 36, .int .i64] | .e103 => [.str, .int .i64, .arr 2, .arr 2, .arr 2, .arr 2, .arr 160, .int .i64, .arr 2, .arr 2, .arr 2, .arr 2, .arr 160] | .e151 => [.str, .int .i64, .arr 2, .arr 2, .arr 2, .arr 2, .arr 195, .int .i64, .arr 2, .arr 2, .arr 2, .arr 2, .arr 195] | .e160 => [.arr 2] | .e180 => [.str, .int .i64, .int .i64, .int .i64, .bool, .bool, .arr 9, .arr 2, .arr 180, .arr 27, .int .i64] | .e184 => [.str, .int .i64, .int .i64, .int .i64, .bool, .bool, .arr 9, .arr 2, .arr 184, .arr 36, .int .i64] | .e190 => [.int .i64, .int .i64, .bool, .bool, .arr 9, .arr 2, .arr 184, .arr 36, .int .i64, .str] | .e195 => [.arr 2] | .z => []
def code (n : Nat) : El := match n with | 2 => .e2 | 5 => .e5 | 9 => .e9 | 23 => .e23 | 27 => .e27 | 36 => .e36 | 103 => .e103 | 151 => .e151 | 160 => .e160 | 180 => .e180 | 184 => .e184 | 190 => .e190 | 195 => .e195 | _ => .z
def KK (n : Nat) : Type := (code n).K
def El.toT : (c : El) → c.K → TL KK c.sh | .e2 => fun x => x | .e5 => fun x => x | .e9 => fun x => x | .e23 => fun x => x | .e27 => fun x => (x.f_Kind, x.f_Size, x.f_Signed, x.f_Big, x.f_Names, x.f_Nums, x.f_Members, x.f_Base, x.f_Count) | .e36 => fun x => (x.f_Kind, x.f_Size, x.f_Signed, x.f_Big, x.f_Names, x.f_Nums, x.f_Members, x.f_Base, x.f_Count) | .e103 => fun x => x | .e151 => fun x => x | .e160 => fun x => x | .e180 => fun x => (x.1, x.2.1, x.2.2.f_Kind, x.2.2.f_Size, x.2.2.f_Signed, x.2.2.f_Big, x.2.2.f_Names, x.2.2.f_Nums, x.2.2.f_Members, x.2.2.f_Base, x.2.2.f_Count) | .e184 => fun x => (x.1, x.2.1, x.2.2.f_Kind, x.2.2.f_Size, x.2.2.f_Signed, x.2.2.f_Big, x.2.2.f_Names, x.2.2.f_Nums, x.2.2.f_Members, x.2.2.f_Base, x.2.2.f_Count) | .e190 => fun x => (x.1.f_Kind, x.1.f_Size, x.1.f_Signed, x.1.f_Big, x.1.f_Names, x.1.f_Nums, x.1.f_Members, x.1.f_Base, x.1.f_Count, x.2) | .e195 => fun x => x | .z => fun _ => ()
def El.ofT : (c : El) → TL KK c.sh → c.K | .e2 => fun x => x | .e5 => fun x => x | .e9 => fun x => x | .e23 => fun x => x | .e27 => fun x => (Ty_Type.mk x.1 x.2.1 x.2.2.1 x.2.2.2.1 x.2.2.2.2.1 x.2.2.2.2.2.1 x.2.2.2.2.2.2.1 x.2.2.2.2.2.2.2.1 x.2.2.2.2.2.2.2.2) | .e36 => fun x => (Ty_Type.mk x.1 x.2.1 x.2.2.1 x.2.2.2.1 x.2.2.2.2.1 x.2.2.2.2.2.1 x.2.2.2.2.2.2.1 x.2.2.2.2.2.2.2.1 x.2.2.2.2.2.2.2.2) | .e103 => fun x => x | .e151 => fun x => x | .e160 => fun x => x | .e180 => fun x => (x.1, x.2.1, (Ty_Type.mk x.2.2.1 x.2.2.2.1 x.2.2.2.2.1 x.2.2.2.2.2.1 x.2.2.2.2.2.2.1 x.2.2.2.2.2.2.2.1 x.2.2.2.2.2.2.2.2.1 x.2.2.2.2.2.2.2.2.2.1 x.2.2.2.2.2.2.2.2.2.2)) | .e184 => fun x => (x.1, x.2.1, (Ty_Type.mk x.2.2.1 x.2.2.2.1 x.2.2.2.2.1 x.2.2.2.2.2.1 x.2.2.2.2.2.2.1 x.2.2.2.2.2.2.2.1 x.2.2.2.2.2.2.2.2.1 x.2.2.2.2.2.2.2.2.2.1 x.2.2.2.2.2.2.2.2.2.2)) | .e190 => fun x => ((Ty_Type.mk x.1 x.2.1 x.2.2.1 x.2.2.2.1 x.2.2.2.2.1 x.2.2.2.2.2.1 x.2.2.2.2.2.2.1 x.2.2.2.2.2.2.2.1 x.2.2.2.2.2.2.2.2.1), x.2.2.2.2.2.2.2.2.2) | .e195 => fun x => x | .z => fun _ => ()
theorem El.law (c : El) (t : TL KK c.sh) : c.toT (c.ofT t) = t := by cases c <;> rfl
noncomputable def S : Sig where
  K := KK
  sh := fun n => (code n).sh
  toT := fun n => (code n).toT
  ofT := fun n => (code n).ofT
  law := fun n => (code n).law
  u8 := 5
  bt := some 203
  ofB := fun s => Ve.ofB s
  toB := fun l => Ve.toB l
  fixd := [(0, isNum)]
def L : List (Nat × Nat × Ann) := [
  (4, 0, { inL := ⟨[(0, .a [.d (.int .i64), .d (.int .i64), .d (.bool), .d (.bool), .d (.arr 9), .d (.arr 2), .d (.arr 180), .d (.arr 27), .d (.int .i64), .d (.arr 2), .d (.str), .d (.arr 151)])], []⟩, outL := ⟨[(0, .c (.d (.bool)))], []⟩, labels := [] }),
  (9, 0, { inL := ⟨[(0, .a [.d (.int .i64), .d (.int .i64), .d (.bool), .d (.bool), .d (.arr 9), .d (.arr 2), .d (.arr 180), .d (.arr 27), .d (.int .i64), .d (.arr 2), .d (.str), .d (.arr 151)]), (1, .c (.d (.int .i64)))], []⟩, outL := ⟨[(0, .c (.d (.int .i64)))], []⟩, labels := [] }),
  (27, 0, { inL := ⟨[(0, .a [.d (.int .i64), .d (.int .i64), .d (.bool), .d (.bool), .d (.arr 9), .d (.arr 2), .d (.arr 180), .d (.arr 27), .d (.int .i64)]), (1, .c (.d (.int .i64)))], []⟩, outL := ⟨[(0, .c (.d (.int .i64)))], []⟩, labels := [] }),
  (68, 0, { inL := ⟨[(0, .c (.d (.arr 9))), (1, .c (.d (.int .i64)))], []⟩, outL := ⟨[(0, .c (.d (.int .i64)))], []⟩, labels := [(5, ⟨[(0, .c (.d (.arr 9))), (1, .c (.d (.int .i64))), (5, .c (.d (.int .i64)))], []⟩)] }),
  (42, 0, { inL := ⟨[(0, .c (.d (.arr 2))), (1, .c (.d (.int .i64)))], []⟩, outL := ⟨[(0, .c (.d (.int .i64)))], []⟩, labels := [] }),
  (69, 0, { inL := ⟨[(0, .c (.d (.arr 180))), (1, .c (.d (.int .i64)))], []⟩, outL := ⟨[(0, .c (.d (.int .i64)))], []⟩, labels := [(5, ⟨[(0, .c (.d (.arr 180))), (1, .c (.d (.int .i64))), (5, .c (.d (.int .i64)))], []⟩)] }),
  (141, 0, { inL := ⟨[(0, .a [.d (.str), .d (.int .i64), .d (.int .i64), .d (.int .i64), .d (.bool), .d (.bool), .d (.arr 9), .d (.arr 2), .d (.arr 180), .d (.arr 27), .d (.int .i64)]), (1, .c (.d (.int .i64)))], []⟩, outL := ⟨[(0, .c (.d (.int .i64)))], []⟩, labels := [] }),
  (70, 0, { inL := ⟨[(0, .c (.d (.arr 27))), (1, .c (.d (.int .i64)))], []⟩, outL := ⟨[(0, .c (.d (.int .i64)))], []⟩, labels := [(5, ⟨[(0, .c (.d (.arr 27))), (1, .c (.d (.int .i64))), (5, .c (.d (.int .i64)))], []⟩)] }),
  (43, 0, { inL := ⟨[(0, .c (.d (.arr 151))), (1, .c (.d (.int .i64)))], []⟩, outL := ⟨[(0, .c (.d (.int .i64)))], []⟩, labels := [(5, ⟨[(0, .c (.d (.arr 151))), (1, .c (.d (.int .i64))), (5, .c (.d (.int .i64)))], []⟩)] }),
  (95, 0, { inL := ⟨[(0, .a [.d (.str), .d (.int .i64), .d (.arr 2), .d (.arr 2), .d (.arr 2), .d (.arr 2), .d (.arr 195), .d (.int .i64), .d (.arr 2), .d (.arr 2), .d (.arr 2), .d (.arr 2), .d (.arr 195)]), (1, .c (.d (.int .i64)))], []⟩, outL := ⟨[(0, .c (.d (.int .i64)))], []⟩, labels := [] }),
  (33, 0, { inL := ⟨[(0, .a [.d (.int .i64), .d (.arr 2), .d (.arr 2), .d (.arr 2), .d (.arr 2), .d (.arr 195)]), (1, .c (.d (.int .i64)))], []⟩, outL := ⟨[(0, .c (.d (.int .i64)))], []⟩, labels := [] }),
  (80, 0, { inL := ⟨[(0, .c (.d (.arr 195))), (1, .c (.d (.int .i64)))], []⟩, outL := ⟨[(0, .c (.d (.int .i64)))], []⟩, labels := [(5, ⟨[(0, .c (.d (.arr 195))), (1, .c (.d (.int .i64))), (5, .c (.d (.int .i64)))], []⟩)] }),
  (155, 0, { inL := ⟨[(0, .a [.d (.arr 2)]), (1, .c (.d (.int .i64)))], []⟩, outL := ⟨[(0, .c (.d (.int .i64)))], []⟩, labels := [] }),
  (11, 0, { inL := ⟨[(0, .a [.d (.int .i64), .d (.int .i64), .d (.bool), .d (.bool), .d (.arr 9), .d (.arr 2), .d (.arr 180), .d (.arr 27), .d (.int .i64), .d (.arr 2), .d (.str), .d (.arr 151)])], []⟩, outL := ⟨[(0, .a [.d (.int .i64), .d (.int .i64), .d (.bool), .d (.bool), .vec 0, .vec 1, .vec 2, .vec 3, .d (.int .i64), .vec 4, .d (.str), .vec 5])], [.vec 9, .vec 2, .deep 184, .deep 36, .vec 2, .deep 103]⟩, labels := [] }),
  (29, 0, { inL := ⟨[(0, .a [.d (.int .i64), .d (.int .i64), .d (.bool), .d (.bool), .d (.arr 9), .d (.arr 2), .d (.arr 180), .d (.arr 27), .d (.int .i64)])], []⟩, outL := ⟨[(0, .a [.d (.int .i64), .d (.int .i64), .d (.bool), .d (.bool), .vec 0, .vec 1, .vec 2, .vec 3, .d (.int .i64)])], [.vec 9, .vec 2, .deep 184, .deep 36]⟩, labels := [] }),
  (73, 0, { inL := ⟨[(0, .c (.d (.arr 9)))], []⟩, outL := ⟨[(0, .c (.vec 0))], [.vec 9]⟩, labels := [(3, ⟨[(0, .c (.d (.arr 9))), (3, .c (.vec 0)), (4, .c (.d (.int .i64)))], [.vec 9]⟩)] }),
  (12, 0, { inL := ⟨[(0, .c (.d (.arr 2)))], []⟩, outL := ⟨[(0, .c (.vec 0))], [.vec 2]⟩, labels := [(3, ⟨[(0, .c (.d (.arr 2))), (3, .c (.vec 0)), (4, .c (.d (.int .i64)))], [.vec 2]⟩)] }),
  (74, 0, { inL := ⟨[(0, .c (.d (.arr 180)))], []⟩, outL := ⟨[(0, .c (.vec 0))], [.deep 184]⟩, labels := [(3, ⟨[(0, .c (.d (.arr 180))), (3, .c (.vec 0)), (4, .c (.d (.int .i64)))], [.deep 184]⟩)], site := fun d => bif Nat.beq d 7 then 1 else 0 }),
  (146, 0, { inL := ⟨[(0, .a [.d (.str), .d (.int .i64), .d (.int .i64), .d (.int .i64), .d (.bool), .d (.bool), .d (.arr 9), .d (.arr 2), .d (.arr 180), .d (.arr 27), .d (.int .i64)])], []⟩, outL := ⟨[(0, .a [.d (.str), .d (.int .i64), .d (.int .i64), .d (.int .i64), .d (.bool), .d (.bool), .vec 0, .vec 1, .vec 2, .vec 3, .d (.int .i64)])], [.vec 9, .vec 2, .deep 184, .deep 36]⟩, labels := [] }),
  (75, 0, { inL := ⟨[(0, .c (.d (.arr 27)))], []⟩, outL := ⟨[(0, .c (.vec 0))], [.deep 36]⟩, labels := [(3, ⟨[(0, .c (.d (.arr 27))), (3, .c (.vec 0)), (4, .c (.d (.int .i64)))], [.deep 36]⟩)], site := fun d => bif Nat.beq d 7 then 1 else 0 }),
  (46, 0, { inL := ⟨[(0, .c (.d (.arr 151)))], []⟩, outL := ⟨[(0, .c (.vec 0))], [.deep 103]⟩, labels := [(3, ⟨[(0, .c (.d (.arr 151))), (3, .c (.vec 0)), (4, .c (.d (.int .i64)))], [.deep 103]⟩)], site := fun d => bif Nat.beq d 7 then 1 else 0 }),
  (105, 0, { inL := ⟨[(0, .a [.d (.str), .d (.int .i64), .d (.arr 2), .d (.arr 2), .d (.arr 2), .d (.arr 2), .d (.arr 195), .d (.int .i64), .d (.arr 2), .d (.arr 2), .d (.arr 2), .d (.arr 2), .d (.arr 195)])], []⟩, outL := ⟨[(0, .a [.d (.str), .d (.int .i64), .vec 0, .vec 1, .vec 2, .vec 3, .vec 4, .d (.int .i64), .vec 5, .vec 6, .vec 7, .vec 8, .vec 9])], [.vec 2, .vec 2, .vec 2, .vec 2, .deep 160, .vec 2, .vec 2, .vec 2, .vec 2, .deep 160]⟩, labels := [] }),
  (36, 0, { inL := ⟨[(0, .a [.d (.int .i64), .d (.arr 2), .d (.arr 2), .d (.arr 2), .d (.arr 2), .d (.arr 195)])], []⟩, outL := ⟨[(0, .a [.d (.int .i64), .vec 0, .vec 1, .vec 2, .vec 3, .vec 4])], [.vec 2, .vec 2, .vec 2, .vec 2, .deep 160]⟩, labels := [] }),
  (84, 0, { inL := ⟨[(0, .c (.d (.arr 195)))], []⟩, outL := ⟨[(0, .c (.vec 0))], [.deep 160]⟩, labels := [(3, ⟨[(0, .c (.d (.arr 195))), (3, .c (.vec 0)), (4, .c (.d (.int .i64)))], [.deep 160]⟩)], site := fun d => bif Nat.beq d 7 then 1 else 0 }),
  (160, 0, { inL := ⟨[(0, .a [.d (.arr 2)])], []⟩, outL := ⟨[(0, .a [.vec 0])], [.vec 2]⟩, labels := [] }),
  (16, 0, { inL := ⟨[(0, .a [.d (.int .i64), .d (.int .i64), .d (.bool), .d (.bool), .d (.arr 9), .d (.arr 2), .d (.arr 184), .d (.arr 36), .d (.int .i64), .d (.arr 2), .d (.str), .d (.arr 103)])], []⟩, outL := ⟨[(0, .c (.vec 0))], [.vec 9]⟩, labels := [(5, ⟨[(1, .c (.ptr 0 0)), (3, .c (.vec 1)), (4, .c (.d (.int .i64)))], [.var true [.d (.int .i64), .d (.int .i64), .d (.bool), .d (.bool), .d (.arr 9), .d (.arr 2), .d (.arr 184), .d (.arr 36), .d (.int .i64), .d (.arr 2), .d (.str), .d (.arr 103)], .vec 9]⟩)] }),
  (44, 0, { inL := ⟨[(0, .c (.ptr 0 0))], [.var false [.d (.int .i64), .d (.int .i64), .d (.bool), .d (.bool), .d (.arr 9), .d (.arr 2), .d (.arr 184), .d (.arr 36), .d (.int .i64), .d (.arr 2), .d (.str), .d (.arr 103)]]⟩, outL := ⟨[(0, .c (.d (.bool)))], [.gone]⟩, labels := [(4, ⟨[(0, .c (.ptr 0 0)), (3, .c (.d (.int .i64)))], [.var false [.d (.int .i64), .d (.int .i64), .d (.bool), .d (.bool), .d (.arr 9), .d (.arr 2), .d (.arr 184), .d (.arr 36), .d (.int .i64), .d (.arr 2), .d (.str), .d (.arr 103)]]⟩)] }),
  (96, 0, { inL := ⟨[(0, .a [.d (.int .i64), .d (.int .i64), .d (.bool), .d (.bool), .d (.arr 9), .d (.arr 2), .d (.arr 184), .d (.arr 36), .d (.int .i64)])], []⟩, outL := ⟨[(0, .c (.d (.bool)))], []⟩, labels := [(15, ⟨[(1, .c (.ptr 0 0)), (3, .c (.d (.bool)))], [.var true [.d (.int .i64), .d (.int .i64), .d (.bool), .d (.bool), .d (.arr 9), .d (.arr 2), .d (.arr 184), .d (.arr 36), .d (.int .i64)]]⟩), (17, ⟨[(1, .c (.ptr 0 0)), (3, .c (.d (.bool)))], [.var true [.d (.int .i64), .d (.int .i64), .d (.bool), .d (.bool), .d (.arr 9), .d (.arr 2), .d (.arr 184), .d (.arr 36), .d (.int .i64)]]⟩)] }),
  (179, 0, { inL := ⟨[(0, .a [.d (.int .i64), .d (.int .i64), .d (.bool), .d (.bool), .d (.arr 9), .d (.arr 2), .d (.arr 184), .d (.arr 36), .d (.int .i64)])], []⟩, outL := ⟨[(0, .c (.d (.bool)))], []⟩, labels := [] }),
  (103, 0, { inL := ⟨[(0, .c (.d (.arr 2))), (1, .c (.d (.int .i64)))], []⟩, outL := ⟨[(0, .c (.d (.bool)))], []⟩, labels := [(2, ⟨[(0, .c (.d (.arr 2))), (1, .c (.d (.int .i64))), (5, .c (.d (.int .i64)))], []⟩)] }),
  (118, 0, { inL := ⟨[(0, .c (.d (.int .i64))), (1, .c (.d (.int .i64))), (2, .c (.d (.int .i64)))], []⟩, outL := ⟨[(0, .c (.d (.bool)))], []⟩, labels := [] }),
  (180, 0, { inL := ⟨[(0, .a [.d (.int .i64), .d (.int .i64), .d (.bool), .d (.bool), .d (.arr 9), .d (.arr 2), .d (.arr 184), .d (.arr 36), .d (.int .i64)])], []⟩, outL := ⟨[(0, .c (.d (.bool)))], []⟩, labels := [(7, ⟨[(1, .c (.ptr 0 0)), (3, .c (.d (.int .i64))), (4, .c (.d (.int .i64))), (5, .c (.d (.int .i64)))], [.var true [.d (.int .i64), .d (.int .i64), .d (.bool), .d (.bool), .d (.arr 9), .d (.arr 2), .d (.arr 184), .d (.arr 36), .d (.int .i64)]]⟩), (12, ⟨[(1, .c (.ptr 0 0)), (3, .c (.d (.int .i64))), (4, .c (.d (.int .i64))), (5, .c (.d (.int .i64))), (6, .c (.d (.int .i64)))], [.var true [.d (.int .i64), .d (.int .i64), .d (.bool), .d (.bool), .d (.arr 9), .d (.arr 2), .d (.arr 184), .d (.arr 36), .d (.int .i64)]]⟩)] }),
  (183, 0, { inL := ⟨[(0, .a [.d (.int .i64), .d (.int .i64), .d (.bool), .d (.bool), .d (.arr 9), .d (.arr 2), .d (.arr 184), .d (.arr 36), .d (.int .i64)])], []⟩, outL := ⟨[(0, .c (.d (.bool)))], []⟩, labels := [] }),
  (247, 0, { inL := ⟨[(0, .a [.d (.int .i64), .d (.int .i64), .d (.bool), .d (.bool), .d (.arr 9), .d (.arr 2), .d (.arr 184), .d (.arr 36), .d (.int .i64)])], []⟩, outL := ⟨[(0, .c (.d (.int .i64))), (1, .c (.d (.int .i64)))], []⟩, labels := [] }),
  (125, 0, { inL := ⟨[(0, .c (.d (.str)))], []⟩, outL := ⟨[(0, .c (.d (.bool)))], []⟩, labels := [(4, ⟨[(0, .c (.d (.str))), (3, .c (.d (.int .i64)))], []⟩)] }),
  (200, 0, { inL := ⟨[(0, .c (.d (.int .u8)))], []⟩, outL := ⟨[(0, .c (.d (.bool)))], []⟩, labels := [] }),
  (181, 0, { inL := ⟨[(0, .a [.d (.int .i64), .d (.int .i64), .d (.bool), .d (.bool), .d (.arr 9), .d (.arr 2), .d (.arr 184), .d (.arr 36), .d (.int .i64)])], []⟩, outL := ⟨[(0, .c (.d (.bool)))], []⟩, labels := [(7, ⟨[(1, .c (.ptr 0 0)), (3, .c (.d (.int .i64))), (4, .c (.d (.int .i64)))], [.var true [.d (.int .i64), .d (.int .i64), .d (.bool), .d (.bool), .d (.arr 9), .d (.arr 2), .d (.arr 184), .d (.arr 36), .d (.int .i64)]]⟩), (13, ⟨[(1, .c (.ptr 0 0)), (4, .c (.d (.int .i64))), (5, .c (.ptr 1 0)), (6, .c (.d (.int .i64)))], [.var true [.d (.int .i64), .d (.int .i64), .d (.bool), .d (.bool), .d (.arr 9), .d (.arr 2), .d (.arr 184), .d (.arr 36), .d (.int .i64)], .var true [.d (.str), .d (.int .i64), .d (.int .i64), .d (.int .i64), .d (.bool), .d (.bool), .d (.arr 9), .d (.arr 2), .d (.arr 184), .d (.arr 36), .d (.int .i64)]]⟩)] }),
  (145, 0, { inL := ⟨[(0, .a [.d (.int .i64), .d (.int .i64), .d (.bool), .d (.bool), .d (.arr 9), .d (.arr 2), .d (.arr 184), .d (.arr 36), .d (.int .i64)])], []⟩, outL := ⟨[(0, .c (.d (.int .i64)))], []⟩, labels := [] }),
  (182, 0, { inL := ⟨[(0, .a [.d (.int .i64), .d (.int .i64), .d (.bool), .d (.bool), .d (.arr 9), .d (.arr 2), .d (.arr 184), .d (.arr 36), .d (.int .i64)])], []⟩, outL := ⟨[(0, .c (.d (.bool)))], []⟩, labels := [] }),
  (184, 0, { inL := ⟨[(0, .a [.d (.int .i64), .d (.int .i64), .d (.bool), .d (.bool), .d (.arr 9), .d (.arr 2), .d (.arr 184), .d (.arr 36), .d (.int .i64)])], []⟩, outL := ⟨[(0, .c (.d (.int .i64)))], []⟩, labels := [(5, ⟨[(1, .c (.ptr 0 0)), (3, .c (.d (.int .i64))), (4, .c (.d (.int .i64)))], [.var true [.d (.int .i64), .d (.int .i64), .d (.bool), .d (.bool), .d (.arr 9), .d (.arr 2), .d (.arr 184), .d (.arr 36), .d (.int .i64)]]⟩)] }),
  (248, 0, { inL := ⟨[(0, .c (.d (.int .i64))), (1, .c (.d (.int .i64)))], []⟩, outL := ⟨[(0, .c (.d (.int .i64)))], []⟩, labels := [] }),
  (97, 0, { inL := ⟨[(0, .a [.d (.int .i64), .d (.int .i64), .d (.bool), .d (.bool), .d (.arr 9), .d (.arr 2), .d (.arr 184), .d (.arr 36), .d (.int .i64)])], []⟩, outL := ⟨[(0, .c (.d (.str)))], []⟩, labels := [] }),
  (185, 0, { inL := ⟨[(0, .a [.d (.int .i64), .d (.int .i64), .d (.bool), .d (.bool), .d (.arr 9), .d (.arr 2), .d (.arr 184), .d (.arr 36), .d (.int .i64)])], []⟩, outL := ⟨[(0, .c (.d (.str)))], []⟩, labels := [(15, ⟨[(1, .c (.ptr 0 0)), (3, .c (.d (.str))), (5, .c (.d (.int .i64)))], [.var true [.d (.int .i64), .d (.int .i64), .d (.bool), .d (.bool), .d (.arr 9), .d (.arr 2), .d (.arr 184), .d (.arr 36), .d (.int .i64)]]⟩), (21, ⟨[(1, .c (.ptr 0 0)), (3, .c (.d (.str))), (6, .c (.d (.int .i64)))], [.var true [.d (.int .i64), .d (.int .i64), .d (.bool), .d (.bool), .d (.arr 9), .d (.arr 2), .d (.arr 184), .d (.arr 36), .d (.int .i64)]]⟩)] }),
  (224, 0, { inL := ⟨[(0, .c (.d (.int .i64)))], []⟩, outL := ⟨[(0, .c (.d (.str)))], []⟩, labels := [] }),
  (249, 0, { inL := ⟨[(0, .c (.d (.int .i64))), (1, .c (.d (.int .i64))), (2, .c (.d (.bool)))], []⟩, outL := ⟨[(0, .c (.d (.str)))], []⟩, labels := [(3, ⟨[(0, .c (.d (.int .i64))), (1, .c (.d (.int .i64))), (2, .c (.d (.bool))), (7, .c (.d (.str))), (8, .c (.d (.int .i64)))], []⟩)] }),
  (98, 0, { inL := ⟨[(0, .c (.d (.arr 2)))], []⟩, outL := ⟨[(0, .c (.d (.bool)))], []⟩, labels := [(5, ⟨[(0, .c (.d (.arr 2))), (3, .c (.d (.int .i64))), (4, .c (.d (.int .i64)))], []⟩)] }),
  (99, 0, { inL := ⟨[(0, .a [.d (.int .i64), .d (.int .i64), .d (.bool), .d (.bool), .d (.arr 9), .d (.arr 2), .d (.arr 184), .d (.arr 36), .d (.int .i64)]), (1, .c (.d (.str)))], []⟩, outL := ⟨[(0, .c (.d (.bool)))], []⟩, labels := [(13, ⟨[(1, .c (.d (.str))), (2, .c (.ptr 0 0)), (5, .c (.d (.int .i64))), (6, .c (.d (.int .i64)))], [.var true [.d (.int .i64), .d (.int .i64), .d (.bool), .d (.bool), .d (.arr 9), .d (.arr 2), .d (.arr 184), .d (.arr 36), .d (.int .i64)]]⟩)] }),
  (186, 0, { inL := ⟨[(0, .c (.d (.str)))], []⟩, outL := ⟨[(0, .c (.d (.bool)))], []⟩, labels := [(3, ⟨[(0, .c (.d (.str))), (3, .c (.d (.bool))), (4, .c (.d (.int .i64)))], []⟩)] }),
  (143, 0, { inL := ⟨[(0, .a [.d (.int .i64), .d (.int .i64), .d (.bool), .d (.bool), .d (.arr 9), .d (.arr 2), .d (.arr 184), .d (.arr 36), .d (.int .i64)]), (1, .c (.d (.str)))], []⟩, outL := ⟨[(0, .c (.d (.int .i64)))], []⟩, labels := [(3, ⟨[(1, .c (.d (.str))), (2, .c (.ptr 0 0)), (5, .c (.d (.int .i64))), (6, .c (.d (.int .i64)))], [.var true [.d (.int .i64), .d (.int .i64), .d (.bool), .d (.bool), .d (.arr 9), .d (.arr 2), .d (.arr 184), .d (.arr 36), .d (.int .i64)]]⟩)] }),
  (187, 0, { inL := ⟨[(0, .a [.d (.int .i64), .d (.int .i64), .d (.bool), .d (.bool), .d (.arr 9), .d (.arr 2), .d (.arr 184), .d (.arr 36), .d (.int .i64)]), (1, .c (.d (.str)))], []⟩, outL := ⟨[(0, .c (.d (.bool)))], []⟩, labels := [(3, ⟨[(1, .c (.d (.str))), (2, .c (.ptr 0 0)), (5, .c (.d (.int .i64))), (6, .c (.d (.int .i64)))], [.var true [.d (.int .i64), .d (.int .i64), .d (.bool), .d (.bool), .d (.arr 9), .d (.arr 2), .d (.arr 184), .d (.arr 36), .d (.int .i64)]]⟩), (8, ⟨[(1, .c (.d (.str))), (2, .c (.ptr 0 0)), (5, .c (.d (.int .i64))), (6, .c (.d (.int .i64))), (7, .c (.d (.int .i64)))], [.var true [.d (.int .i64), .d (.int .i64), .d (.bool), .d (.bool), .d (.arr 9), .d (.arr 2), .d (.arr 184), .d (.arr 36), .d (.int .i64)]]⟩)] }),
  (100, 0, { inL := ⟨[(0, .a [.d (.str), .d (.int .i64), .d (.arr 2), .d (.arr 2), .d (.arr 2), .d (.arr 2), .d (.arr 160), .d (.int .i64), .d (.arr 2), .d (.arr 2), .d (.arr 2), .d (.arr 2), .d (.arr 160)])], []⟩, outL := ⟨[(0, .c (.d (.bool)))], []⟩, labels := [] }),
  (121, 0, { inL := ⟨[(0, .c (.d (.str)))], []⟩, outL := ⟨[(0, .c (.d (.bool)))], []⟩, labels := [] }),
  (198, 0, { inL := ⟨[(0, .c (.d (.str)))], []⟩, outL := ⟨[(0, .c (.vec 0)), (1, .c (.d (.bool)))], [.vec 9]⟩, labels := [(8, ⟨[(0, .c (.d (.str))), (4, .c (.vec 0)), (5, .c (.d (.int .i64))), (6, .c (.d (.int .i64)))], [.vec 9]⟩)] }),
  (188, 0, { inL := ⟨[(0, .a [.d (.int .i64), .d (.arr 2), .d (.arr 2), .d (.arr 2), .d (.arr 2), .d (.arr 160)])], []⟩, outL := ⟨[(0, .c (.d (.bool)))], []⟩, labels := [] }),
  (250, 0, { inL := ⟨[(0, .a [.d (.int .i64), .d (.arr 2), .d (.arr 2), .d (.arr 2), .d (.arr 2), .d (.arr 160)])], []⟩, outL := ⟨[(0, .c (.d (.bool)))], []⟩, labels := [] }),
  (251, 0, { inL := ⟨[(0, .a [.d (.int .i64), .d (.arr 2), .d (.arr 2), .d (.arr 2), .d (.arr 2), .d (.arr 160)])], []⟩, outL := ⟨[(0, .c (.d (.bool)))], []⟩, labels := [(5, ⟨[(1, .c (.ptr 0 0)), (3, .c (.d (.int .i64))), (4, .c (.d (.int .i64)))], [.var true [.d (.int .i64), .d (.arr 2), .d (.arr 2), .d (.arr 2), .d (.arr 2), .d (.arr 160)]]⟩)] }),
  (190, 0, { inL := ⟨[(0, .a [.d (.int .i64), .d (.arr 2), .d (.arr 2), .d (.arr 2), .d (.arr 2), .d (.arr 160)]), (1, .c (.d (.int .i64)))], []⟩, outL := ⟨[(0, .c (.d (.int .i64)))], []⟩, labels := [] }),
  (252, 0, { inL := ⟨[(0, .c (.d (.arr 160)))], []⟩, outL := ⟨[(0, .c (.d (.bool)))], []⟩, labels := [(4, ⟨[(0, .c (.d (.arr 160))), (3, .c (.d (.int .i64)))], []⟩), (9, ⟨[(0, .c (.d (.arr 160))), (3, .c (.d (.int .i64))), (4, .c (.d (.int .i64)))], []⟩)] }),
  (189, 0, { inL := ⟨[(0, .a [.d (.str), .d (.int .i64), .d (.arr 2), .d (.arr 2), .d (.arr 2), .d (.arr 2), .d (.arr 160), .d (.int .i64), .d (.arr 2), .d (.arr 2), .d (.arr 2), .d (.arr 2), .d (.arr 160)])], []⟩, outL := ⟨[(0, .c (.d (.str)))], []⟩, labels := [] }),
  (253, 0, { inL := ⟨[(0, .c (.d (.arr 2)))], []⟩, outL := ⟨[(0, .c (.d (.str)))], []⟩, labels := [(3, ⟨[(0, .c (.d (.arr 2))), (3, .c (.vec 0)), (4, .c (.d (.int .i64)))], [.vec 5]⟩)] }),
  (254, 0, { inL := ⟨[(0, .a [.d (.int .i64), .d (.arr 2), .d (.arr 2), .d (.arr 2), .d (.arr 2), .d (.arr 160)])], []⟩, outL := ⟨[(0, .c (.d (.str)))], []⟩, labels := [(9, ⟨[(1, .c (.ptr 0 0)), (3, .c (.d (.str))), (4, .c (.d (.int .i64)))], [.var true [.d (.int .i64), .d (.arr 2), .d (.arr 2), .d (.arr 2), .d (.arr 2), .d (.arr 160)]]⟩)] }),
  (101, 0, { inL := ⟨[(0, .c (.d (.arr 2))), (1, .a [.d (.int .i64), .d (.arr 2), .d (.arr 2), .d (.arr 2), .d (.arr 2), .d (.arr 160)])], []⟩, outL := ⟨[(0, .c (.d (.bool)))], []⟩, labels := [(8, ⟨[(0, .c (.d (.arr 2))), (3, .c (.ptr 0 0)), (5, .c (.d (.int .i64)))], [.var true [.d (.int .i64), .d (.arr 2), .d (.arr 2), .d (.arr 2), .d (.arr 2), .d (.arr 160)]]⟩), (14, ⟨[(0, .c (.d (.arr 2))), (3, .c (.ptr 0 0)), (6, .c (.d (.int .i64)))], [.var true [.d (.int .i64), .d (.arr 2), .d (.arr 2), .d (.arr 2), .d (.arr 2), .d (.arr 160)]]⟩)] }),
  (102, 0, { inL := ⟨[(0, .c (.d (.arr 2))), (1, .c (.d (.arr 2)))], []⟩, outL := ⟨[(0, .c (.d (.bool)))], []⟩, labels := [(4, ⟨[(0, .c (.d (.arr 2))), (1, .c (.d (.arr 2))), (5, .c (.d (.int .i64)))], []⟩)] }),
  (53, 0, { inL := ⟨[(0, .c (.d (.arr 9))), (1, .c (.d (.str)))], []⟩, outL := ⟨[(0, .c (.d (.bool)))], []⟩, labels := [(2, ⟨[(0, .c (.d (.arr 9))), (1, .c (.d (.str))), (5, .c (.d (.int .i64)))], []⟩)] }),
  (17, 0, { inL := ⟨[(0, .a [.d (.int .i64), .d (.int .i64), .d (.bool), .d (.bool), .d (.arr 9), .d (.arr 2), .d (.arr 184), .d (.arr 36), .d (.int .i64), .d (.arr 2), .d (.str), .d (.arr 103)])], []⟩, outL := ⟨[(0, .c (.vec 0))], [.vec 9]⟩, labels := [] }),
  (41, 0, { inL := ⟨[(0, .a [.d (.int .i64), .d (.int .i64), .d (.bool), .d (.bool), .d (.arr 9), .d (.arr 2), .d (.arr 184), .d (.arr 36), .d (.int .i64), .d (.arr 2), .d (.str), .d (.arr 103)])], []⟩, outL := ⟨[(0, .c (.d (.bool)))], []⟩, labels := [] }),
  (88, 0, { inL := ⟨[(0, .a [.d (.int .i64), .d (.int .i64), .d (.bool), .d (.bool), .d (.arr 9), .d (.arr 2), .d (.arr 184), .d (.arr 36), .d (.int .i64)])], []⟩, outL := ⟨[(0, .c (.d (.bool)))], []⟩, labels := [] }),
  (147, 0, { inL := ⟨[(0, .a [.d (.int .i64), .d (.int .i64), .d (.bool), .d (.bool), .d (.arr 9), .d (.arr 2), .d (.arr 184), .d (.arr 36), .d (.int .i64)])], []⟩, outL := ⟨[(0, .c (.d (.bool)))], []⟩, labels := [] }),
  (226, 0, { inL := ⟨[(0, .a [.d (.int .i64), .d (.int .i64), .d (.bool), .d (.bool), .d (.arr 9), .d (.arr 2), .d (.arr 184), .d (.arr 36), .d (.int .i64)]), (1, .c (.d (.int .i64)))], []⟩, outL := ⟨[(0, .c (.d (.bool)))], []⟩, labels := [] }),
  (277, 0, { inL := ⟨[(0, .a [.d (.int .i64), .d (.int .i64), .d (.bool), .d (.bool), .d (.arr 9), .d (.arr 2), .d (.arr 184), .d (.arr 36), .d (.int .i64)])], []⟩, outL := ⟨[(0, .a [.d (.int .i64), .d (.int .i64), .d (.bool), .d (.bool), .d (.arr 9), .d (.arr 2), .d (.arr 184), .d (.arr 36), .d (.int .i64)])], []⟩, labels := [] }),
  (213, 0, { inL := ⟨[(0, .a [.d (.int .i64), .d (.int .i64), .d (.bool), .d (.bool), .d (.arr 9), .d (.arr 2), .d (.arr 184), .d (.arr 36), .d (.int .i64)]), (1, .a [.d (.int .i64), .d (.int .i64), .d (.bool), .d (.bool), .d (.arr 9), .d (.arr 2), .d (.arr 184), .d (.arr 36), .d (.int .i64)])], []⟩, outL := ⟨[(0, .c (.d (.bool)))], []⟩, labels := [] }),
  (273, 0, { inL := ⟨[(0, .c (.d (.arr 9))), (1, .c (.d (.arr 9)))], []⟩, outL := ⟨[(0, .c (.d (.bool)))], []⟩, labels := [(4, ⟨[(0, .c (.d (.arr 9))), (1, .c (.d (.arr 9))), (12, .c (.d (.int .i64))), (13, .c (.d (.int .i64)))], []⟩)] }),
  (135, 0, { inL := ⟨[(0, .c (.d (.arr 2))), (1, .c (.d (.arr 2)))], []⟩, outL := ⟨[(0, .c (.d (.bool)))], []⟩, labels := [(4, ⟨[(0, .c (.d (.arr 2))), (1, .c (.d (.arr 2))), (12, .c (.d (.int .i64))), (13, .c (.d (.int .i64)))], []⟩)] }),
  (274, 0, { inL := ⟨[(0, .c (.d (.arr 184))), (1, .c (.d (.arr 184))), (2, .c (.fn 275 []))], []⟩, outL := ⟨[(0, .c (.d (.bool)))], []⟩, labels := [(4, ⟨[(1, .c (.d (.arr 184))), (2, .c (.fn 275 [])), (15, .c (.d (.arr 184))), (16, .c (.d (.int .i64))), (17, .c (.d (.int .i64)))], []⟩)] }),
  (275, 0, { inL := ⟨[(0, .a [.d (.str), .d (.int .i64), .d (.int .i64), .d (.int .i64), .d (.bool), .d (.bool), .d (.arr 9), .d (.arr 2), .d (.arr 184), .d (.arr 36), .d (.int .i64)]), (1, .a [.d (.str), .d (.int .i64), .d (.int .i64), .d (.int .i64), .d (.bool), .d (.bool), .d (.arr 9), .d (.arr 2), .d (.arr 184), .d (.arr 36), .d (.int .i64)])], []⟩, outL := ⟨[(0, .c (.d (.bool)))], []⟩, labels := [] }),
  (276, 0, { inL := ⟨[(0, .c (.d (.arr 36))), (1, .c (.d (.arr 36))), (2, .c (.fn 213 []))], []⟩, outL := ⟨[(0, .c (.d (.bool)))], []⟩, labels := [(4, ⟨[(1, .c (.d (.arr 36))), (2, .c (.fn 213 [])), (15, .c (.d (.arr 36))), (16, .c (.d (.int .i64))), (17, .c (.d (.int .i64)))], []⟩)] }),
  (278, 0, { inL := ⟨[(0, .a [.d (.int .i64), .d (.int .i64), .d (.bool), .d (.bool), .d (.arr 9), .d (.arr 2), .d (.arr 184), .d (.arr 36), .d (.int .i64)])], []⟩, outL := ⟨[(0, .c (.d (.bool)))], []⟩, labels := [] }),
  (50, 0, { inL := ⟨[(0, .c (.d (.arr 2))), (1, .c (.d (.int .i64)))], []⟩, outL := ⟨[(0, .c (.d (.bool)))], []⟩, labels := [] }),
  (108, 0, { inL := ⟨[(0, .c (.d (.arr 2))), (1, .c (.d (.int .i64)))], []⟩, outL := ⟨[(0, .c (.d (.int .i64)))], []⟩, labels := [(2, ⟨[(0, .c (.d (.arr 2))), (1, .c (.d (.int .i64))), (7, .c (.d (.int .i64))), (8, .c (.d (.int .i64)))], []⟩)] }),
  (106, 0, { inL := ⟨[(0, .c (.d (.int .i64))), (1, .c (.d (.int .i64))), (2, .c (.d (.int .i64)))], []⟩, outL := ⟨[(0, .c (.d (.bool)))], []⟩, labels := [] }),
  (279, 0, { inL := ⟨[(0, .a [.d (.int .i64), .d (.int .i64), .d (.bool), .d (.bool), .d (.arr 9), .d (.arr 2), .d (.arr 184), .d (.arr 36), .d (.int .i64)])], []⟩, outL := ⟨[(0, .c (.d (.bool)))], []⟩, labels := [(5, ⟨[(1, .c (.ptr 0 0)), (3, .c (.d (.int .i64))), (4, .c (.d (.int .i64))), (36, .c (.d (.arr 2))), (37, .c (.d (.int .i64))), (38, .c (.d (.int .i64)))], [.var true [.d (.int .i64), .d (.int .i64), .d (.bool), .d (.bool), .d (.arr 9), .d (.arr 2), .d (.arr 184), .d (.arr 36), .d (.int .i64)]]⟩)] }),
  (298, 0, { inL := ⟨[(0, .a [.d (.int .i64), .d (.int .i64), .d (.bool), .d (.bool), .d (.arr 9), .d (.arr 2), .d (.arr 184), .d (.arr 36), .d (.int .i64)])], []⟩, outL := ⟨[(0, .c (.d (.int .i64))), (1, .c (.d (.int .i64)))], []⟩, labels := [] }),
  (299, 0, { inL := ⟨[(0, .c (.d (.arr 9)))], []⟩, outL := ⟨[(0, .c (.d (.bool)))], []⟩, labels := [(2, ⟨[(0, .c (.d (.arr 9))), (5, .c (.d (.arr 9))), (6, .c (.d (.int .i64))), (7, .c (.d (.int .i64)))], []⟩)] }),
  (130, 0, { inL := ⟨[(0, .c (.d (.str)))], []⟩, outL := ⟨[(0, .c (.d (.bool)))], []⟩, labels := [(2, ⟨[(0, .c (.d (.str))), (7, .c (.d (.int .i64))), (8, .c (.d (.int .i64)))], []⟩), (6, ⟨[(0, .c (.d (.str))), (3, .c (.d (.int .i64))), (4, .c (.d (.int .u8))), (5, .c (.d (.bool))), (7, .c (.d (.int .i64))), (8, .c (.d (.int .i64)))], []⟩)] }),
  (112, 0, { inL := ⟨[(0, .c (.d (.arr 9))), (1, .c (.d (.str)))], []⟩, outL := ⟨[(0, .c (.d (.bool)))], []⟩, labels := [] }),
  (192, 0, { inL := ⟨[(0, .c (.d (.arr 9))), (1, .c (.d (.str)))], []⟩, outL := ⟨[(0, .c (.d (.int .i64)))], []⟩, labels := [(2, ⟨[(0, .c (.d (.arr 9))), (1, .c (.d (.str))), (7, .c (.d (.int .i64))), (8, .c (.d (.int .i64)))], []⟩)] }),
  (280, 0, { inL := ⟨[(0, .a [.d (.int .i64), .d (.int .i64), .d (.bool), .d (.bool), .d (.arr 9), .d (.arr 2), .d (.arr 184), .d (.arr 36), .d (.int .i64)]), (1, .c (.d (.int .i64)))], []⟩, outL := ⟨[(0, .c (.d (.bool)))], []⟩, labels := [(6, ⟨[(1, .c (.d (.int .i64))), (2, .c (.ptr 0 0)), (5, .c (.d (.int .i64))), (6, .c (.vec 1)), (21, .c (.d (.arr 184))), (22, .c (.d (.int .i64))), (23, .c (.d (.int .i64)))], [.var true [.d (.int .i64), .d (.int .i64), .d (.bool), .d (.bool), .d (.arr 9), .d (.arr 2), .d (.arr 184), .d (.arr 36), .d (.int .i64)], .vec 9]⟩)] }),
  (169, 0, { inL := ⟨[(0, .a [.d (.int .i64), .d (.int .i64), .d (.bool), .d (.bool), .d (.arr 9), .d (.arr 2), .d (.arr 184), .d (.arr 36), .d (.int .i64)])], []⟩, outL := ⟨[(0, .c (.d (.int .i64)))], []⟩, labels := [] }),
  (167, 0, { inL := ⟨[(0, .a [.d (.int .i64), .d (.int .i64), .d (.bool), .d (.bool), .d (.arr 9), .d (.arr 2), .d (.arr 184), .d (.arr 36), .d (.int .i64)])], []⟩, outL := ⟨[(0, .c (.d (.str)))], []⟩, labels := [(10, ⟨[(1, .c (.ptr 0 0)), (3, .c (.d (.str))), (52, .c (.d (.arr 9))), (53, .c (.d (.int .i64))), (54, .c (.d (.int .i64)))], [.var true [.d (.int .i64), .d (.int .i64), .d (.bool), .d (.bool), .d (.arr 9), .d (.arr 2), .d (.arr 184), .d (.arr 36), .d (.int .i64)]]⟩), (17, ⟨[(3, .c (.d (.str))), (84, .c (.d (.arr 184))), (85, .c (.d (.int .i64))), (86, .c (.d (.int .i64)))], []⟩)] }),
  (238, 0, { inL := ⟨[(0, .c (.d (.int .i64))), (1, .c (.d (.int .i64)))], []⟩, outL := ⟨[(0, .c (.d (.str)))], []⟩, labels := [(3, ⟨[(0, .c (.d (.int .i64))), (5, .c (.vec 0)), (10, .c (.d (.int .i64))), (11, .c (.d (.int .i64)))], [.vec 5]⟩)] }),
  (239, 0, { inL := ⟨[(0, .c (.d (.bool)))], []⟩, outL := ⟨[(0, .c (.d (.int .i64)))], []⟩, labels := [] }),
  (240, 0, { inL := ⟨[(0, .c (.d (.str)))], []⟩, outL := ⟨[(0, .c (.d (.str)))], []⟩, labels := [] }),
  (89, 0, { inL := ⟨[(0, .c (.d (.arr 2)))], []⟩, outL := ⟨[(0, .c (.d (.bool)))], []⟩, labels := [] }),
  (168, 0, { inL := ⟨[(0, .c (.d (.arr 2))), (1, .c (.d (.int .i64))), (2, .c (.d (.int .i64)))], []⟩, outL := ⟨[(0, .c (.d (.bool)))], []⟩, labels := [] }),
  (241, 0, { inL := ⟨[(0, .c (.d (.arr 2))), (1, .c (.fn 242 [(0, 0), (1, 0)]))], [.var false [.d (.int .i64)], .var false [.d (.int .i64)]]⟩, outL := ⟨[(0, .c (.d (.bool)))], [.gone, .gone]⟩, labels := [] }),
  (289, 0, { inL := ⟨[(0, .c (.d (.arr 2))), (1, .c (.fn 242 [(0, 0), (1, 0)]))], [.var false [.d (.int .i64)], .var false [.d (.int .i64)]]⟩, outL := ⟨[(0, .c (.d (.int .i64)))], [.gone, .gone]⟩, labels := [(2, ⟨[(0, .c (.d (.arr 2))), (1, .c (.fn 242 [(0, 0), (1, 0)])), (7, .c (.d (.int .i64))), (8, .c (.d (.int .i64)))], [.var false [.d (.int .i64)], .var false [.d (.int .i64)]]⟩)] }),
  (242, 0, { inL := ⟨[(0, .c (.d (.int .i64))), (1, .c (.ptr 0 0)), (2, .c (.ptr 1 0))], [.var false [.d (.int .i64)], .var false [.d (.int .i64)]]⟩, outL := ⟨[(0, .c (.d (.bool)))], [.gone, .gone]⟩, labels := [] }),
  (109, 0, { inL := ⟨[(0, .c (.d (.arr 2)))], []⟩, outL := ⟨[(0, .c (.d (.int .i64)))], []⟩, labels := [(3, ⟨[(3, .c (.d (.int .i64))), (6, .c (.d (.arr 2))), (7, .c (.d (.int .i64))), (8, .c (.d (.int .i64)))], []⟩)] }),
  (90, 0, { inL := ⟨[(0, .a [.d (.int .i64), .d (.int .i64), .d (.bool), .d (.bool), .d (.arr 9), .d (.arr 2), .d (.arr 184), .d (.arr 36), .d (.int .i64)]), (1, .c (.d (.str)))], []⟩, outL := ⟨[(0, .c (.d (.bool)))], []⟩, labels := [] }),
  (153, 0, { inL := ⟨[(0, .c (.d (.str)))], []⟩, outL := ⟨[(0, .c (.d (.str)))], []⟩, labels := [] }),
  (234, 0, { inL := ⟨[(0, .c (.d (.str))), (1, .c (.d (.str)))], []⟩, outL := ⟨[(0, .c (.d (.str)))], []⟩, labels := [] }),
  (170, 0, { inL := ⟨[(0, .c (.d (.str))), (1, .c (.d (.str)))], []⟩, outL := ⟨[(0, .c (.d (.bool)))], []⟩, labels := [] }),
  (151, 0, { inL := ⟨[(0, .a [.d (.int .i64), .d (.int .i64), .d (.bool), .d (.bool), .d (.arr 9), .d (.arr 2), .d (.arr 184), .d (.arr 36), .d (.int .i64)]), (1, .c (.d (.str)))], []⟩, outL := ⟨[(0, .c (.d (.int .i64)))], []⟩, labels := [] }),
  (229, 0, { inL := ⟨[(0, .c (.d (.str)))], []⟩, outL := ⟨[(0, .c (.d (.str)))], []⟩, labels := [] }),
  (283, 0, { inL := ⟨[(0, .c (.vec 0))], [.vec 5]⟩, outL := ⟨[], [.vec 5]⟩, labels := [(1, ⟨[(0, .c (.vec 0)), (2, .c (.d (.int .i64))), (3, .c (.d (.int .i64)))], [.vec 5]⟩)] }),
  (230, 0, { inL := ⟨[(0, .c (.d (.str)))], []⟩, outL := ⟨[(0, .c (.d (.int .i64)))], []⟩, labels := [] }),
  (231, 0, { inL := ⟨[(0, .c (.d (.str)))], []⟩, outL := ⟨[(0, .c (.d (.int .u64)))], []⟩, labels := [(3, ⟨[(0, .c (.d (.str))), (3, .c (.d (.int .u64))), (6, .c (.d (.int .i64))), (7, .c (.d (.int .i64)))], []⟩)] }),
  (171, 0, { inL := ⟨[(0, .a [.d (.int .i64), .d (.int .i64), .d (.bool), .d (.bool), .d (.arr 9), .d (.arr 2), .d (.arr 184), .d (.arr 36), .d (.int .i64)]), (1, .c (.d (.str)))], []⟩, outL := ⟨[(0, .c (.d (.bool)))], []⟩, labels := [(3, ⟨[(5, .c (.vec 0)), (11, .c (.d (.arr 184))), (12, .c (.d (.int .i64))), (13, .c (.d (.int .i64)))], [.vec 5]⟩)] }),
  (148, 0, { inL := ⟨[(0, .a [.d (.int .i64), .d (.int .i64), .d (.bool), .d (.bool), .d (.arr 9), .d (.arr 2), .d (.arr 184), .d (.arr 36), .d (.int .i64)]), (1, .c (.d (.str)))], []⟩, outL := ⟨[(0, .c (.vec 0))], [.vec 190]⟩, labels := [(5, ⟨[(1, .c (.d (.str))), (5, .c (.vec 0)), (15, .c (.d (.arr 184))), (16, .c (.d (.int .i64))), (17, .c (.d (.int .i64)))], [.vec 190]⟩), (12, ⟨[(1, .c (.d (.str))), (2, .c (.ptr 0 0)), (5, .c (.vec 1)), (8, .c (.d (.int .i64))), (46, .c (.d (.int .i64))), (47, .c (.d (.int .i64)))], [.var true [.d (.int .i64), .d (.int .i64), .d (.bool), .d (.bool), .d (.arr 9), .d (.arr 2), .d (.arr 184), .d (.arr 36), .d (.int .i64)], .vec 190]⟩)] }),
  (172, 0, { inL := ⟨[(0, .c (.d (.arr 190))), (1, .c (.fn 173 []))], []⟩, outL := ⟨[(0, .c (.d (.bool)))], []⟩, labels := [] }),
  (244, 0, { inL := ⟨[(0, .c (.d (.arr 190))), (1, .c (.fn 173 []))], []⟩, outL := ⟨[(0, .c (.d (.int .i64)))], []⟩, labels := [(2, ⟨[(0, .c (.d (.arr 190))), (1, .c (.fn 173 [])), (7, .c (.d (.int .i64))), (8, .c (.d (.int .i64)))], []⟩)] }),
  (173, 0, { inL := ⟨[(0, .a [.d (.int .i64), .d (.int .i64), .d (.bool), .d (.bool), .d (.arr 9), .d (.arr 2), .d (.arr 184), .d (.arr 36), .d (.int .i64), .d (.str)])], []⟩, outL := ⟨[(0, .c (.d (.bool)))], []⟩, labels := [] }),
  (91, 0, { inL := ⟨[(0, .c (.d (.arr 103))), (1, .c (.fn 92 [(0, 0)]))], [.var false [.d (.int .i64), .d (.int .i64), .d (.bool), .d (.bool), .d (.arr 9), .d (.arr 2), .d (.arr 184), .d (.arr 36), .d (.int .i64), .d (.arr 2), .d (.str), .d (.arr 103)]]⟩, outL := ⟨[(0, .c (.d (.bool)))], [.gone]⟩, labels := [] }),
  (174, 0, { inL := ⟨[(0, .c (.d (.arr 103))), (1, .c (.fn 92 [(0, 0)]))], [.var false [.d (.int .i64), .d (.int .i64), .d (.bool), .d (.bool), .d (.arr 9), .d (.arr 2), .d (.arr 184), .d (.arr 36), .d (.int .i64), .d (.arr 2), .d (.str), .d (.arr 103)]]⟩, outL := ⟨[(0, .c (.d (.int .i64)))], [.gone]⟩, labels := [(2, ⟨[(0, .c (.d (.arr 103))), (1, .c (.fn 92 [(0, 0)])), (7, .c (.d (.int .i64))), (8, .c (.d (.int .i64)))], [.var false [.d (.int .i64), .d (.int .i64), .d (.bool), .d (.bool), .d (.arr 9), .d (.arr 2), .d (.arr 184), .d (.arr 36), .d (.int .i64), .d (.arr 2), .d (.str), .d (.arr 103)]]⟩)] }),
  (92, 0, { inL := ⟨[(0, .a [.d (.str), .d (.int .i64), .d (.arr 2), .d (.arr 2), .d (.arr 2), .d (.arr 2), .d (.arr 160), .d (.int .i64), .d (.arr 2), .d (.arr 2), .d (.arr 2), .d (.arr 2), .d (.arr 160)]), (1, .c (.ptr 0 0))], [.var false [.d (.int .i64), .d (.int .i64), .d (.bool), .d (.bool), .d (.arr 9), .d (.arr 2), .d (.arr 184), .d (.arr 36), .d (.int .i64), .d (.arr 2), .d (.str), .d (.arr 103)]]⟩, outL := ⟨[(0, .c (.d (.bool)))], [.gone]⟩, labels := [] }),
  (93, 0, { inL := ⟨[(0, .a [.d (.str), .d (.int .i64), .d (.arr 2), .d (.arr 2), .d (.arr 2), .d (.arr 2), .d (.arr 160), .d (.int .i64), .d (.arr 2), .d (.arr 2), .d (.arr 2), .d (.arr 2), .d (.arr 160)])], []⟩, outL := ⟨[(0, .c (.d (.bool)))], []⟩, labels := [] }),
  (129, 0, { inL := ⟨[(0, .c (.d (.str)))], []⟩, outL := ⟨[(0, .c (.d (.bool)))], []⟩, labels := [] }),
  (206, 0, { inL := ⟨[(0, .c (.d (.str)))], []⟩, outL := ⟨[(0, .c (.d (.arr 9))), (1, .c (.d (.bool)))], []⟩, labels := [] }),
  (264, 0, { inL := ⟨[(0, .c (.d (.str))), (1, .c (.d (.str)))], []⟩, outL := ⟨[(0, .c (.d (.str))), (1, .c (.d (.bool)))], []⟩, labels := [] }),
  (265, 0, { inL := ⟨[(0, .c (.d (.str))), (1, .c (.d (.str)))], []⟩, outL := ⟨[(0, .c (.d (.arr 9)))], []⟩, labels := [] }),
  (266, 0, { inL := ⟨[(0, .c (.d (.arr 9))), (1, .c (.fn 267 []))], []⟩, outL := ⟨[(0, .c (.d (.bool)))], []⟩, labels := [] }),
  (295, 0, { inL := ⟨[(0, .c (.d (.arr 9))), (1, .c (.fn 267 []))], []⟩, outL := ⟨[(0, .c (.d (.int .i64)))], []⟩, labels := [(2, ⟨[(0, .c (.d (.arr 9))), (1, .c (.fn 267 [])), (7, .c (.d (.int .i64))), (8, .c (.d (.int .i64)))], []⟩)] }),
  (267, 0, { inL := ⟨[(0, .c (.d (.str)))], []⟩, outL := ⟨[(0, .c (.d (.bool)))], []⟩, labels := [] }),
  (132, 0, { inL := ⟨[(0, .a [.d (.int .i64), .d (.arr 2), .d (.arr 2), .d (.arr 2), .d (.arr 2), .d (.arr 160)])], []⟩, outL := ⟨[(0, .c (.d (.bool)))], []⟩, labels := [] }),
  (136, 0, { inL := ⟨[(0, .a [.d (.int .i64), .d (.arr 2), .d (.arr 2), .d (.arr 2), .d (.arr 2), .d (.arr 160)]), (1, .a [.d (.int .i64), .d (.arr 2), .d (.arr 2), .d (.arr 2), .d (.arr 2), .d (.arr 160)])], []⟩, outL := ⟨[(0, .c (.d (.bool)))], []⟩, labels := [] }),
  (217, 0, { inL := ⟨[(0, .a [.d (.int .i64), .d (.arr 2), .d (.arr 2), .d (.arr 2), .d (.arr 2), .d (.arr 160)])], []⟩, outL := ⟨[(0, .c (.vec 0))], [.vec 23]⟩, labels := [] }),
  (216, 0, { inL := ⟨[(0, .c (.d (.arr 23))), (1, .c (.d (.arr 23))), (2, .c (.fn 135 []))], []⟩, outL := ⟨[(0, .c (.d (.bool)))], []⟩, labels := [(4, ⟨[(1, .c (.d (.arr 23))), (2, .c (.fn 135 [])), (15, .c (.d (.arr 23))), (16, .c (.d (.int .i64))), (17, .c (.d (.int .i64)))], []⟩)] }),
  (218, 0, { inL := ⟨[(0, .c (.d (.arr 160))), (1, .c (.d (.arr 160))), (2, .c (.fn 219 []))], []⟩, outL := ⟨[(0, .c (.d (.bool)))], []⟩, labels := [(4, ⟨[(1, .c (.d (.arr 160))), (2, .c (.fn 219 [])), (15, .c (.d (.arr 160))), (16, .c (.d (.int .i64))), (17, .c (.d (.int .i64)))], []⟩)] }),
  (219, 0, { inL := ⟨[(0, .a [.d (.arr 2)]), (1, .a [.d (.arr 2)])], []⟩, outL := ⟨[(0, .c (.d (.bool)))], []⟩, labels := [] }),
  (210, 0, { inL := ⟨[(0, .a [.d (.int .i64), .d (.arr 2), .d (.arr 2), .d (.arr 2), .d (.arr 2), .d (.arr 160)])], []⟩, outL := ⟨[(0, .c (.d (.bool)))], []⟩, labels := [(5, ⟨[(1, .c (.ptr 0 0)), (31, .c (.d (.int .i64))), (32, .c (.d (.int .i64)))], [.var true [.d (.int .i64), .d (.arr 2), .d (.arr 2), .d (.arr 2), .d (.arr 2), .d (.arr 160)]]⟩)] }),
  (176, 0, { inL := ⟨[(0, .a [.d (.int .i64), .d (.arr 2), .d (.arr 2), .d (.arr 2), .d (.arr 2), .d (.arr 160)]), (1, .c (.d (.int .i64)))], []⟩, outL := ⟨[(0, .c (.d (.int .i64)))], []⟩, labels := [] }),
  (211, 0, { inL := ⟨[(0, .a [.d (.int .i64), .d (.arr 2), .d (.arr 2), .d (.arr 2), .d (.arr 2), .d (.arr 160)])], []⟩, outL := ⟨[(0, .c (.d (.bool)))], []⟩, labels := [] }),
  (177, 0, { inL := ⟨[(0, .c (.d (.arr 160))), (1, .c (.fn 272 [(0, 0)]))], [.var false [.d (.int .i64)]]⟩, outL := ⟨[(0, .c (.d (.bool)))], [.gone]⟩, labels := [] }),
  (246, 0, { inL := ⟨[(0, .c (.d (.arr 160))), (1, .c (.fn 272 [(0, 0)]))], [.var false [.d (.int .i64)]]⟩, outL := ⟨[(0, .c (.d (.int .i64)))], [.gone]⟩, labels := [(2, ⟨[(0, .c (.d (.arr 160))), (1, .c (.fn 272 [(0, 0)])), (7, .c (.d (.int .i64))), (8, .c (.d (.int .i64)))], [.var false [.d (.int .i64)]]⟩)] }),
  (272, 0, { inL := ⟨[(0, .a [.d (.arr 2)]), (1, .c (.ptr 0 0))], [.var false [.d (.int .i64)]]⟩, outL := ⟨[(0, .c (.d (.bool)))], [.gone]⟩, labels := [] }),
  (175, 0, { inL := ⟨[(0, .a [.d (.str), .d (.int .i64), .d (.arr 2), .d (.arr 2), .d (.arr 2), .d (.arr 2), .d (.arr 160), .d (.int .i64), .d (.arr 2), .d (.arr 2), .d (.arr 2), .d (.arr 2), .d (.arr 160)])], []⟩, outL := ⟨[(0, .c (.d (.str)))], []⟩, labels := [] }),
  (245, 0, { inL := ⟨[(0, .a [.d (.int .i64), .d (.arr 2), .d (.arr 2), .d (.arr 2), .d (.arr 2), .d (.arr 160)])], []⟩, outL := ⟨[(0, .c (.d (.str)))], []⟩, labels := [(6, ⟨[(3, .c (.d (.str))), (22, .c (.vec 0)), (23, .c (.d (.int .i64))), (24, .c (.d (.int .i64)))], [.vec 23]⟩), (13, ⟨[(3, .c (.d (.str))), (50, .c (.d (.arr 160))), (51, .c (.d (.int .i64))), (52, .c (.d (.int .i64)))], []⟩)] }),
  (291, 0, { inL := ⟨[(0, .c (.d (.arr 2)))], []⟩, outL := ⟨[(0, .c (.d (.str)))], []⟩, labels := [(3, ⟨[(3, .c (.ptr 0 0)), (6, .c (.d (.arr 2))), (7, .c (.d (.int .i64))), (8, .c (.d (.int .i64)))], [.var true [.self 0, .vec 1], .vec 5]⟩)] }),
  (163, 0, { inL := ⟨[(0, .c (.ptr 0 0)), (1, .c (.d (.str)))], [.var true [.self 0, .vec 1], .vec 5]⟩, outL := ⟨[(0, .c (.d (.int .i64))), (1, .c (.any))], [.var true [.self 0, .vec 2], .gone, .vec 5]⟩, labels := [] }),
  (237, 0, { inL := ⟨[(0, .c (.ptr 0 0))], [.var true [.self 0]]⟩, outL := ⟨[], [.var true [.self 0]]⟩, labels := [] }),
  (165, 0, { inL := ⟨[(0, .c (.ptr 0 0))], [.var true [.self 0, .vec 1], .vec 5]⟩, outL := ⟨[(0, .c (.d (.str)))], [.var true [.self 0, .any], .gone]⟩, labels := [] }),
  (94, 0, { inL := ⟨[(0, .a [.d (.int .i64), .d (.arr 2), .d (.arr 2), .d (.arr 2), .d (.arr 2), .d (.arr 160)]), (1, .c (.d (.arr 2)))], []⟩, outL := ⟨[(0, .c (.d (.bool)))], []⟩, labels := [(6, ⟨[(2, .c (.ptr 0 0)), (17, .c (.d (.arr 2))), (18, .c (.d (.int .i64))), (19, .c (.d (.int .i64)))], [.var true [.d (.int .i64), .d (.arr 2), .d (.arr 2), .d (.arr 2), .d (.arr 2), .d (.arr 160)]]⟩)], site := fun d => bif Nat.beq d 35 then 1 else 0 }),
  (177, 1, { inL := ⟨[(0, .c (.d (.arr 160))), (1, .c (.fn 178 [(0, 0)]))], [.var false [.d (.arr 2)]]⟩, outL := ⟨[(0, .c (.d (.bool)))], [.gone]⟩, labels := [], site := fun d => bif Nat.beq d 7 then 1 else 0 }),
  (246, 1, { inL := ⟨[(0, .c (.d (.arr 160))), (1, .c (.fn 178 [(0, 0)]))], [.var false [.d (.arr 2)]]⟩, outL := ⟨[(0, .c (.d (.int .i64)))], [.gone]⟩, labels := [(2, ⟨[(0, .c (.d (.arr 160))), (1, .c (.fn 178 [(0, 0)])), (7, .c (.d (.int .i64))), (8, .c (.d (.int .i64)))], [.var false [.d (.arr 2)]]⟩)] }),
  (178, 0, { inL := ⟨[(0, .a [.d (.arr 2)]), (1, .c (.ptr 0 0))], [.var false [.d (.arr 2)]]⟩, outL := ⟨[(0, .c (.d (.bool)))], [.gone]⟩, labels := [] }),
  (47, 0, { inL := ⟨[(0, .c (.d (.arr 2))), (1, .c (.d (.arr 2)))], []⟩, outL := ⟨[(0, .c (.d (.bool)))], []⟩, labels := [(4, ⟨[(0, .c (.d (.arr 2))), (12, .c (.d (.arr 2))), (13, .c (.d (.int .i64))), (14, .c (.d (.int .i64)))], []⟩)] }),
  (54, 0, { inL := ⟨[(0, .a [.d (.int .i64), .d (.int .i64), .d (.bool), .d (.bool), .d (.arr 9), .d (.arr 2), .d (.arr 184), .d (.arr 36), .d (.int .i64), .d (.arr 2), .d (.str), .d (.arr 103)])], []⟩, outL := ⟨[(0, .c (.vec 0))], [.vec 9]⟩, labels := [(3, ⟨[(3, .c (.vec 0)), (7, .c (.d (.arr 103))), (8, .c (.d (.int .i64))), (9, .c (.d (.int .i64)))], [.vec 9]⟩)] }),
  (18, 0, { inL := ⟨[(0, .c (.d (.arr 9))), (1, .c (.d (.arr 9)))], []⟩, outL := ⟨[(0, .c (.d (.bool)))], []⟩, labels := [(4, ⟨[(0, .c (.d (.arr 9))), (1, .c (.d (.arr 9))), (5, .c (.d (.int .i64)))], []⟩)] }),
  (14, 0, { inL := ⟨[(0, .a [.d (.int .i64), .d (.int .i64), .d (.bool), .d (.bool), .d (.arr 9), .d (.arr 2), .d (.arr 184), .d (.arr 36), .d (.int .i64), .d (.arr 2), .d (.str), .d (.arr 103)]), (1, .a [.d (.int .i64), .d (.int .i64), .d (.bool), .d (.bool), .d (.arr 9), .d (.arr 2), .d (.arr 184), .d (.arr 36), .d (.int .i64), .d (.arr 2), .d (.str), .d (.arr 103)])], []⟩, outL := ⟨[(0, .c (.d (.bool)))], []⟩, labels := [] }),
  (31, 0, { inL := ⟨[(0, .a [.d (.int .i64), .d (.int .i64), .d (.bool), .d (.bool), .d (.arr 9), .d (.arr 2), .d (.arr 184), .d (.arr 36), .d (.int .i64)]), (1, .a [.d (.int .i64), .d (.int .i64), .d (.bool), .d (.bool), .d (.arr 9), .d (.arr 2), .d (.arr 184), .d (.arr 36), .d (.int .i64)])], []⟩, outL := ⟨[(0, .c (.d (.bool)))], []⟩, labels := [] }),
  (15, 0, { inL := ⟨[(0, .c (.d (.arr 2))), (1, .c (.d (.arr 2)))], []⟩, outL := ⟨[(0, .c (.d (.bool)))], []⟩, labels := [(4, ⟨[(0, .c (.d (.arr 2))), (1, .c (.d (.arr 2))), (5, .c (.d (.int .i64)))], []⟩)] }),
  (78, 0, { inL := ⟨[(0, .c (.d (.arr 184))), (1, .c (.d (.arr 184)))], []⟩, outL := ⟨[(0, .c (.d (.bool)))], []⟩, labels := [(4, ⟨[(0, .c (.d (.arr 184))), (1, .c (.d (.arr 184))), (5, .c (.d (.int .i64)))], []⟩)] }),
  (154, 0, { inL := ⟨[(0, .a [.d (.str), .d (.int .i64), .d (.int .i64), .d (.int .i64), .d (.bool), .d (.bool), .d (.arr 9), .d (.arr 2), .d (.arr 184), .d (.arr 36), .d (.int .i64)]), (1, .a [.d (.str), .d (.int .i64), .d (.int .i64), .d (.int .i64), .d (.bool), .d (.bool), .d (.arr 9), .d (.arr 2), .d (.arr 184), .d (.arr 36), .d (.int .i64)])], []⟩, outL := ⟨[(0, .c (.d (.bool)))], []⟩, labels := [] }),
  (79, 0, { inL := ⟨[(0, .c (.d (.arr 36))), (1, .c (.d (.arr 36)))], []⟩, outL := ⟨[(0, .c (.d (.bool)))], []⟩, labels := [(4, ⟨[(0, .c (.d (.arr 36))), (1, .c (.d (.arr 36))), (5, .c (.d (.int .i64)))], []⟩)] }),
  (52, 0, { inL := ⟨[(0, .c (.d (.arr 103))), (1, .c (.d (.arr 103)))], []⟩, outL := ⟨[(0, .c (.d (.bool)))], []⟩, labels := [(4, ⟨[(0, .c (.d (.arr 103))), (1, .c (.d (.arr 103))), (5, .c (.d (.int .i64)))], []⟩)] }),
  (111, 0, { inL := ⟨[(0, .a [.d (.str), .d (.int .i64), .d (.arr 2), .d (.arr 2), .d (.arr 2), .d (.arr 2), .d (.arr 160), .d (.int .i64), .d (.arr 2), .d (.arr 2), .d (.arr 2), .d (.arr 2), .d (.arr 160)]), (1, .a [.d (.str), .d (.int .i64), .d (.arr 2), .d (.arr 2), .d (.arr 2), .d (.arr 2), .d (.arr 160), .d (.int .i64), .d (.arr 2), .d (.arr 2), .d (.arr 2), .d (.arr 2), .d (.arr 160)])], []⟩, outL := ⟨[(0, .c (.d (.bool)))], []⟩, labels := [] }),
  (39, 0, { inL := ⟨[(0, .a [.d (.int .i64), .d (.arr 2), .d (.arr 2), .d (.arr 2), .d (.arr 2), .d (.arr 160)]), (1, .a [.d (.int .i64), .d (.arr 2), .d (.arr 2), .d (.arr 2), .d (.arr 2), .d (.arr 160)])], []⟩, outL := ⟨[(0, .c (.d (.bool)))], []⟩, labels := [] }),
  (87, 0, { inL := ⟨[(0, .c (.d (.arr 160))), (1, .c (.d (.arr 160)))], []⟩, outL := ⟨[(0, .c (.d (.bool)))], []⟩, labels := [(4, ⟨[(0, .c (.d (.arr 160))), (1, .c (.d (.arr 160))), (5, .c (.d (.int .i64)))], []⟩)] }),
  (166, 0, { inL := ⟨[(0, .a [.d (.arr 2)]), (1, .a [.d (.arr 2)])], []⟩, outL := ⟨[(0, .c (.d (.bool)))], []⟩, labels := [] }),
  (19, 0, { inL := ⟨[(0, .a [.d (.int .i64), .d (.int .i64), .d (.bool), .d (.bool), .vec 0, .vec 1, .vec 2, .vec 3, .d (.int .i64), .vec 4, .d (.str), .vec 5]), (1, .c (.d (.int .i64)))], [.vec 9, .vec 2, .deep 184, .deep 36, .vec 2, .deep 103]⟩, outL := ⟨[(0, .c (.d (.int .i64)))], [.vec 9, .vec 2, .deep 184, .deep 36, .vec 2, .deep 103]⟩, labels := [] }),
  (55, 0, { inL := ⟨[(0, .a [.d (.int .i64), .d (.int .i64), .d (.bool), .d (.bool), .vec 0, .vec 1, .vec 2, .vec 3, .d (.int .i64)]), (1, .c (.d (.int .i64)))], [.vec 9, .vec 2, .deep 184, .deep 36]⟩, outL := ⟨[(0, .c (.d (.int .i64)))], [.vec 9, .vec 2, .deep 184, .deep 36]⟩, labels := [] }),
  (20, 0, { inL := ⟨[(0, .c (.vec 0)), (1, .c (.d (.int .i64)))], [.vec 9]⟩, outL := ⟨[(0, .c (.d (.int .i64)))], [.vec 9]⟩, labels := [(2, ⟨[(0, .c (.vec 0)), (1, .c (.d (.int .i64))), (5, .c (.d (.int .i64)))], [.vec 9]⟩)] }),
  (58, 0, { inL := ⟨[(0, .c (.d (.int .i64)))], []⟩, outL := ⟨[(0, .c (.d (.str)))], []⟩, labels := [(4, ⟨[(0, .c (.d (.int .i64))), (3, .c (.d (.str)))], []⟩)] }),
  (56, 0, { inL := ⟨[(0, .c (.vec 0)), (1, .c (.d (.int .i64)))], [.vec 2]⟩, outL := ⟨[(0, .c (.d (.int .i64)))], [.vec 2]⟩, labels := [(2, ⟨[(0, .c (.vec 0)), (1, .c (.d (.int .i64))), (5, .c (.d (.int .i64)))], [.vec 2]⟩)] }),
  (113, 0, { inL := ⟨[(0, .c (.vec 0)), (1, .c (.d (.int .i64)))], [.deep 184]⟩, outL := ⟨[(0, .c (.d (.int .i64)))], [.deep 184]⟩, labels := [(2, ⟨[(0, .c (.vec 0)), (1, .c (.d (.int .i64))), (5, .c (.d (.int .i64)))], [.deep 184]⟩)] }),
  (114, 0, { inL := ⟨[(0, .c (.vec 0)), (1, .c (.d (.int .i64)))], [.deep 36]⟩, outL := ⟨[(0, .c (.d (.int .i64)))], [.deep 36]⟩, labels := [(2, ⟨[(0, .c (.vec 0)), (1, .c (.d (.int .i64))), (5, .c (.d (.int .i64)))], [.deep 36]⟩)] }),
  (57, 0, { inL := ⟨[(0, .c (.vec 0)), (1, .c (.d (.int .i64)))], [.deep 103]⟩, outL := ⟨[(0, .c (.d (.int .i64)))], [.deep 103]⟩, labels := [(2, ⟨[(0, .c (.vec 0)), (1, .c (.d (.int .i64))), (5, .c (.d (.int .i64)))], [.deep 103]⟩)] }),
  (115, 0, { inL := ⟨[(0, .c (.vec 0)), (1, .c (.d (.int .i64)))], [.deep 160]⟩, outL := ⟨[(0, .c (.d (.int .i64)))], [.deep 160]⟩, labels := [(2, ⟨[(0, .c (.vec 0)), (1, .c (.d (.int .i64))), (5, .c (.d (.int .i64)))], [.deep 160]⟩)] }),
  (21, 0, { inL := ⟨[(0, .c (.d (.arr 9))), (1, .c (.d (.int .i64)))], []⟩, outL := ⟨[(0, .c (.d (.int .i64)))], []⟩, labels := [(2, ⟨[(0, .c (.d (.arr 9))), (1, .c (.d (.int .i64))), (5, .c (.d (.int .i64)))], []⟩)] })]
noncomputable def X : List (ExtRow S (annOf Tryz.prog L)) := [⟨234, 0, fun d => trimR1 (d.1) (d.2)⟩, ⟨170, 0, fun d => contains1 (d.1) (d.2)⟩, ⟨264, 0, fun d => some (cutPre (d.1) (d.2))⟩, ⟨265, 0, fun d => splitI (d.1) (d.2)⟩, ⟨237, 0, fun _ => some ()⟩, ⟨165, 0, fun d => textB (d)⟩]
@[reducible] noncomputable def E : Env := { S := S, tt := tdOf Tryz.prog, ann := annOf Tryz.prog L, ext := extAt S (annOf Tryz.prog L) X, eqs := fun t => get ([] : List (Nat × List TS)) t }
theorem rows_ok : rowsOk Tryz.prog L = true := by kernel_rfl
theorem env_ok : EnvOk Tryz.prog E := envOk_of (by kernel_rfl) rfl rfl rows_ok (eqs_nil) (by kernel_rfl) rfl ofB_len
  (fun s i x h => by
    obtain ⟨b, h1, h2⟩ := Ve.ofB_at (x := x) h
    exact ⟨b, h1, by rw [← h2]; rfl⟩)
  (fun l ns h hl => toB_row (fun i x hx => by
    obtain ⟨n, h1, h2⟩ := h i x hx
    have h2' : ([.int .u8 x] : List (Cell S.K)) = [.int .u8 n] := h2
    injection h2' with h2' _
    injection h2' with _ h2'
    rw [h1, h2']) hl)
theorem ext234_ok : ∀ (d : TL E.S.K (jobT E.ann ⟨234, 0, none⟩)) r, (fun d : ByteArray × ByteArray => (trimR1 (d.1) (d.2) : Option (ByteArray))) d = some r → CallOk Tryz.prog E 234 0 d r := by
  intro (d : ByteArray × ByteArray) (r : ByteArray) h
  refine flat_ok3 rfl (fun h => by cases h) (xs := [(0, .c (.str (d.1))), (1, .c (.str (d.2)))]) (res := [(0, .c (.str r))]) rfl rfl (fun Fz w vs hz hlt hfx hs => ?_)
  have h90 := crep_str (hs 0 _ rfl)
  have h91 := crep_str (hs 1 _ rfl)
  rw [arr2 hz h90 h91]
  obtain ⟨x, hx, h1, h2, hr⟩ := trimR1_some h
  rw [hx]
  exact (Tryz.strings_TrimRight_one (d.1) x h1 w h2).mono (by rintro e w' ⟨rfl, rfl⟩; exact ⟨_, rfl, Below.refl _ _, by rw [← hr]; exact .str _⟩)
theorem ext170_ok : ∀ (d : TL E.S.K (jobT E.ann ⟨170, 0, none⟩)) r, (fun d : ByteArray × ByteArray => (contains1 (d.1) (d.2) : Option (Bool))) d = some r → CallOk Tryz.prog E 170 0 d r := by
  intro (d : ByteArray × ByteArray) (r : Bool) h
  refine flat_ok3 rfl (fun h => by cases h) (xs := [(0, .c (.str (d.1))), (1, .c (.str (d.2)))]) (res := [(0, .c (.bool r))]) rfl rfl (fun Fz w vs hz hlt hfx hs => ?_)
  have h90 := crep_str (hs 0 _ rfl)
  have h91 := crep_str (hs 1 _ rfl)
  rw [arr2 hz h90 h91]
  obtain ⟨x, hx, hr⟩ := contains1_some h
  rw [hx]
  exact (Tryz.strings_Contains_one (d.1) x w).mono (by rintro e w' ⟨rfl, rfl⟩; exact ⟨_, rfl, Below.refl _ _, by rw [← hr]; exact .bool _⟩)
theorem ext264_ok : ∀ (d : TL E.S.K (jobT E.ann ⟨264, 0, none⟩)) r, (fun d : ByteArray × ByteArray => (some (cutPre (d.1) (d.2)) : Option (ByteArray × Bool))) d = some r → CallOk Tryz.prog E 264 0 d r := by
  intro (d : ByteArray × ByteArray) (r : ByteArray × Bool) h
  refine flat_ok3 rfl (fun h => by cases h) (xs := [(0, .c (.str (d.1))), (1, .c (.str (d.2)))]) (res := [(0, .c (.str r.1)), (1, .c (.bool r.2))]) rfl rfl (fun Fz w vs hz hlt hfx hs => ?_)
  have h90 := crep_str (hs 0 _ rfl)
  have h91 := crep_str (hs 1 _ rfl)
  rw [arr2 hz h90 h91]
  cases h
  exact (Tryz.strings_CutPrefix (d.1) (d.2) w).mono (by rintro e w' ⟨rfl, rfl⟩; exact ⟨_, rfl, Below.refl _ _, ⟨[.string _, .bool _], rfl, .cons (show TRep _ _ _ (.str _) _ from .str _) (.cons (show TRep _ _ _ (.bool _) _ from .bool _) .nil)⟩⟩)
theorem ext265_ok : ∀ (d : TL E.S.K (jobT E.ann ⟨265, 0, none⟩)) r, (fun d : ByteArray × ByteArray => (splitI (d.1) (d.2) : Option (List ByteArray))) d = some r → CallOk Tryz.prog E 265 0 d r := by
  intro (d : ByteArray × ByteArray) (r : List ByteArray) h
  refine flat_ok4 rfl (fun h => by cases h) (xs := [(0, .c (.str (d.1))), (1, .c (.str (d.2)))]) (res := [(0, .c (.arr 9 r))]) rfl rfl (fun Fz w vs hz hlt hfx hs => ?_)
  have h90 := crep_str (hs 0 _ rfl)
  have h91 := crep_str (hs 1 _ rfl)
  rw [arr2 hz h90 h91]
  obtain ⟨h1, h2, hr⟩ := splitI_some h
  obtain ⟨mx, hm⟩ := num_of_fixed 0 (show (0, isNum) ∈ E.S.fixd from .head _) hfx
  have hlen := Lib.splitB_all (d.2) h2 0 _ (d.1) rfl
  exact (Any.strings_Split { Tryz.laysM146 with } Tryz.laysM146.i9 (d.1) (d.2) mx w h1 hm h2).mono (by
    rintro e w' ⟨rfl, rfl⟩
    refine ⟨_, rfl, (Below.refl _ _).alloc (Nat.le_refl _) _, ?_⟩
    rw [← hlen, hr]
    exact crep_strs_mk (S := E.S) (D := fun _ => False) (φ := fun _ => ⟨none, 0, 0, 0⟩) (e := 9) (l := r) (fun x : ByteArray => x) (fun _ => rfl) rfl (.inr ⟨Nat.le_refl _, by simp⟩) (fun i x hx => (World.cell?_alloc_new w _ _ i).trans (by
      have hx : r[i]? = some x := hx
      rw [List.getElem?_toArray, List.getElem?_map, hx]; rfl)))
theorem ext237_ok : ∀ (d : TL E.S.K (jobT E.ann ⟨237, 0, none⟩)) r, (fun d : Unit => (some () : Option (Unit))) d = some r → CallOk Tryz.prog E 237 0 d r := by
  intro (d : Unit) (r : Unit) h
  exact bt_check_ok env_ok rfl Tryz.h240 Tryz.h240_x rfl (fun h => by cases h) rfl rfl rfl rfl
theorem ext165_ok : ∀ (d : TL E.S.K (jobT E.ann ⟨165, 0, none⟩)) r, (fun d : List Int => (textB d : Option (ByteArray))) d = some r → CallOk Tryz.prog E 165 0 d r := by
  intro (d : List Int) (r : ByteArray) h
  exact (by
    obtain ⟨hb, hr⟩ := textB_some h
    subst hr
    exact bt_string_ok env_ok rfl rfl Tryz.lays169 Tryz.Builder_Extra_169 rfl (fun h => by cases h) rfl rfl (l := d) rfl rfl hb)
theorem exts_ok : RowsOk Tryz.prog E X := ⟨ext234_ok, ext170_ok, ext264_ok, ext265_ok, ext237_ok, ext165_ok, trivial⟩
theorem oks : OrcOk Tryz.prog E (Sem E) := Sem_ok env_ok (drawn_ok env_ok) (extOk_of rfl exts_ok)
abbrev T0_ := List ByteArray
abbrev T1_ := List (ByteArray × Int × Ty_Type)
abbrev T2_ := List (List Int)
abbrev T3_ := List (ByteArray × Int × List Int × List Int × List Int × List Int × List (List Int) × Int × List Int × List Int × List Int × List Int × List (List Int))
noncomputable def laws_FnExactSourcePaths (p0 p1 : Int) (p2 p3 : Bool) (p4 : T0_) (p5 : List Int) (p6 : T1_) (p7 : List Ty_Type) (p8 : Int) (p9 : List Int) (pa : ByteArray) (pb : T3_) : Option (Bool) := Sem E ⟨4, 0, none⟩ (p0, p1, p2, p3, p4, p5, p6, p7, p8, p9, pa, pb)
noncomputable def laws_szVirtual (p0 p1 : Int) (p2 p3 : Bool) (p4 : T0_) (p5 : List Int) (p6 : T1_) (p7 : List Ty_Type) (p8 : Int) (p9 : List Int) (pa : ByteArray) (pb : T3_) (pc : Int) : Option (Int) := Sem E ⟨9, 0, none⟩ (p0, p1, p2, p3, p4, p5, p6, p7, p8, p9, pa, pb, pc)
noncomputable def laws_szType (p0 p1 : Int) (p2 p3 : Bool) (p4 : T0_) (p5 : List Int) (p6 : T1_) (p7 : List Ty_Type) (p8 p9 : Int) : Option (Int) := Sem E ⟨27, 0, none⟩ (p0, p1, p2, p3, p4, p5, p6, p7, p8, p9)
noncomputable def laws_szStringS (p0 : T0_) (p1 : Int) : Option (Int) := Sem E ⟨68, 0, none⟩ (p0, p1)
noncomputable def laws_szStringS_l5 (p0 : T0_) (p1 p2 : Int) : Option (Int) := Sem E ⟨68, 0, some 5⟩ (p0, p1, p2)
noncomputable def laws_szInt64S (p0 : List Int) (p1 : Int) : Option (Int) := Sem E ⟨42, 0, none⟩ (p0, p1)
noncomputable def laws_szMemberS (p0 : T1_) (p1 : Int) : Option (Int) := Sem E ⟨69, 0, none⟩ (p0, p1)
noncomputable def laws_szMemberS_l5 (p0 : T1_) (p1 p2 : Int) : Option (Int) := Sem E ⟨69, 0, some 5⟩ (p0, p1, p2)
noncomputable def laws_szMember (p0 : ByteArray) (p1 p2 p3 : Int) (p4 p5 : Bool) (p6 : T0_) (p7 : List Int) (p8 : T1_) (p9 : List Ty_Type) (pa pb : Int) : Option (Int) := Sem E ⟨141, 0, none⟩ (p0, p1, p2, p3, p4, p5, p6, p7, p8, p9, pa, pb)
noncomputable def laws_szTypeS (p0 : List Ty_Type) (p1 : Int) : Option (Int) := Sem E ⟨70, 0, none⟩ (p0, p1)
noncomputable def laws_szTypeS_l5 (p0 : List Ty_Type) (p1 p2 : Int) : Option (Int) := Sem E ⟨70, 0, some 5⟩ (p0, p1, p2)
noncomputable def laws_szMappingS (p0 : T3_) (p1 : Int) : Option (Int) := Sem E ⟨43, 0, none⟩ (p0, p1)
noncomputable def laws_szMappingS_l5 (p0 : T3_) (p1 p2 : Int) : Option (Int) := Sem E ⟨43, 0, some 5⟩ (p0, p1, p2)
noncomputable def laws_szMapping (p0 : ByteArray) (p1 : Int) (p2 p3 p4 p5 : List Int) (p6 : T2_) (p7 : Int) (p8 p9 pa pb : List Int) (pc : T2_) (pd : Int) : Option (Int) := Sem E ⟨95, 0, none⟩ (p0, p1, p2, p3, p4, p5, p6, p7, p8, p9, pa, pb, pc, pd)
noncomputable def laws_szSelection (p0 : Int) (p1 p2 p3 p4 : List Int) (p5 : T2_) (p6 : Int) : Option (Int) := Sem E ⟨33, 0, none⟩ (p0, p1, p2, p3, p4, p5, p6)
noncomputable def laws_szPointS (p0 : T2_) (p1 : Int) : Option (Int) := Sem E ⟨80, 0, none⟩ (p0, p1)
noncomputable def laws_szPointS_l5 (p0 : T2_) (p1 p2 : Int) : Option (Int) := Sem E ⟨80, 0, some 5⟩ (p0, p1, p2)
noncomputable def laws_szPoint (p0 : List Int) (p1 : Int) : Option (Int) := Sem E ⟨155, 0, none⟩ (p0, p1)
noncomputable def laws_toVirtual (p0 p1 : Int) (p2 p3 : Bool) (p4 : T0_) (p5 : List Int) (p6 : T1_) (p7 : List Ty_Type) (p8 : Int) (p9 : List Int) (pa : ByteArray) (pb : T3_) : Option (Int × Int × Bool × Bool × Int × ByteArray × List ByteArray × List Int × List (ByteArray × Int × Ty_Type) × List Ty_Type × List Int × List (ByteArray × Int × List Int × List Int × List Int × List Int × List (List Int) × Int × List Int × List Int × List Int × List Int × List (List Int))) := Sem E ⟨11, 0, none⟩ (p0, p1, p2, p3, p4, p5, p6, p7, p8, p9, pa, pb)
noncomputable def laws_toType (p0 p1 : Int) (p2 p3 : Bool) (p4 : T0_) (p5 : List Int) (p6 : T1_) (p7 : List Ty_Type) (p8 : Int) : Option (Int × Int × Bool × Bool × Int × List ByteArray × List Int × List (ByteArray × Int × Ty_Type) × List Ty_Type) := Sem E ⟨29, 0, none⟩ (p0, p1, p2, p3, p4, p5, p6, p7, p8)
noncomputable def laws_toStringS (a : List ByteArray) : Option (List ByteArray) := Sem E ⟨73, 0, none⟩ a
noncomputable def laws_toStringS_l3 (p0 : T0_) (p1 : Int) (p2 : T0_) : Option (List ByteArray) := Sem E ⟨73, 0, some 3⟩ (p0, p1, p2)
noncomputable def laws_toInt64S (a : List Int) : Option (List Int) := Sem E ⟨12, 0, none⟩ a
noncomputable def laws_toInt64S_l3 (p0 : List Int) (p1 : Int) (p2 : List Int) : Option (List Int) := Sem E ⟨12, 0, some 3⟩ (p0, p1, p2)
noncomputable def laws_toMemberS (a : List (ByteArray × Int × Ty_Type)) : Option (List (ByteArray × Int × Ty_Type)) := Sem E ⟨74, 0, none⟩ a
noncomputable def laws_toMemberS_l3 (p0 : T1_) (p1 : Int) (p2 : T1_) : Option (List (ByteArray × Int × Ty_Type)) := Sem E ⟨74, 0, some 3⟩ (p0, p1, p2)
noncomputable def laws_toMember (p0 : ByteArray) (p1 p2 p3 : Int) (p4 p5 : Bool) (p6 : T0_) (p7 : List Int) (p8 : T1_) (p9 : List Ty_Type) (pa : Int) : Option (ByteArray × Int × Int × Int × Bool × Bool × Int × List ByteArray × List Int × List (ByteArray × Int × Ty_Type) × List Ty_Type) := Sem E ⟨146, 0, none⟩ (p0, p1, p2, p3, p4, p5, p6, p7, p8, p9, pa)
noncomputable def laws_toTypeS (a : List Ty_Type) : Option (List Ty_Type) := Sem E ⟨75, 0, none⟩ a
noncomputable def laws_toTypeS_l3 (p0 : List Ty_Type) (p1 : Int) (p2 : List Ty_Type) : Option (List Ty_Type) := Sem E ⟨75, 0, some 3⟩ (p0, p1, p2)
noncomputable def laws_toMappingS (a : List (ByteArray × Int × List Int × List Int × List Int × List Int × List (List Int) × Int × List Int × List Int × List Int × List Int × List (List Int))) : Option (List (ByteArray × Int × List Int × List Int × List Int × List Int × List (List Int) × Int × List Int × List Int × List Int × List Int × List (List Int))) := Sem E ⟨46, 0, none⟩ a
noncomputable def laws_toMappingS_l3 (p0 : T3_) (p1 : Int) (p2 : T3_) : Option (List (ByteArray × Int × List Int × List Int × List Int × List Int × List (List Int) × Int × List Int × List Int × List Int × List Int × List (List Int))) := Sem E ⟨46, 0, some 3⟩ (p0, p1, p2)
noncomputable def laws_toMapping (p0 : ByteArray) (p1 : Int) (p2 p3 p4 p5 : List Int) (p6 : T2_) (p7 : Int) (p8 p9 pa pb : List Int) (pc : T2_) : Option (ByteArray × Int × Int × List Int × List Int × List Int × List Int × List (List Int) × List Int × List Int × List Int × List Int × List (List Int)) := Sem E ⟨105, 0, none⟩ (p0, p1, p2, p3, p4, p5, p6, p7, p8, p9, pa, pb, pc)
noncomputable def laws_toSelection (p0 : Int) (p1 p2 p3 p4 : List Int) (p5 : T2_) : Option (Int × List Int × List Int × List Int × List Int × List (List Int)) := Sem E ⟨36, 0, none⟩ (p0, p1, p2, p3, p4, p5)
noncomputable def laws_toPointS (a : List (List Int)) : Option (List (List Int)) := Sem E ⟨84, 0, none⟩ a
noncomputable def laws_toPointS_l3 (p0 : T2_) (p1 : Int) (p2 : T2_) : Option (List (List Int)) := Sem E ⟨84, 0, some 3⟩ (p0, p1, p2)
noncomputable def laws_toPoint (a_At : List Int) : Option (List Int) := Sem E ⟨160, 0, none⟩ a_At
noncomputable def spec_SourcePaths (p0 p1 : Int) (p2 p3 : Bool) (p4 : T0_) (p5 : List Int) (p6 : T1_) (p7 : List Ty_Type) (p8 : Int) (p9 : List Int) (pa : ByteArray) (pb : T3_) : Option (List ByteArray) := Sem E ⟨16, 0, none⟩ (p0, p1, p2, p3, p4, p5, p6, p7, p8, p9, pa, pb)
noncomputable def spec_SourcePaths_l5 (p0 p1 p2 : Int) (p3 p4 : Bool) (p5 : T0_) (p6 : List Int) (p7 : T1_) (p8 : List Ty_Type) (p9 : Int) (pa : List Int) (pb : ByteArray) (pc : T3_) (pd : T0_) : Option (List ByteArray) := Sem E ⟨16, 0, some 5⟩ (p0, p1, p2, p3, p4, p5, p6, p7, p8, p9, pa, pb, pc, pd)
noncomputable def spec_l24Ok (p0 p1 : Int) (p2 p3 : Bool) (p4 : T0_) (p5 : List Int) (p6 : T1_) (p7 : List Ty_Type) (p8 : Int) (p9 : List Int) (pa : ByteArray) (pb : T3_) : Option (Bool) := Sem E ⟨44, 0, none⟩ (p0, p1, p2, p3, p4, p5, p6, p7, p8, p9, pa, pb)
noncomputable def spec_l24Ok_l4 (p0 p1 p2 : Int) (p3 p4 : Bool) (p5 : T0_) (p6 : List Int) (p7 : T1_) (p8 : List Ty_Type) (p9 : Int) (pa : List Int) (pb : ByteArray) (pc : T3_) : Option (Bool) := Sem E ⟨44, 0, some 4⟩ (p0, p1, p2, p3, p4, p5, p6, p7, p8, p9, pa, pb, pc)
noncomputable def spec_l02Ok (p0 p1 : Int) (p2 p3 : Bool) (p4 : T0_) (p5 : List Int) (p6 : T1_) (p7 : List Ty_Type) (p8 : Int) : Option (Bool) := Sem E ⟨96, 0, none⟩ (p0, p1, p2, p3, p4, p5, p6, p7, p8)
noncomputable def spec_l02Ok_l15 (p0 : Bool) (p1 p2 : Int) (p3 p4 : Bool) (p5 : T0_) (p6 : List Int) (p7 : T1_) (p8 : List Ty_Type) (p9 : Int) : Option (Bool) := Sem E ⟨96, 0, some 15⟩ (p0, p1, p2, p3, p4, p5, p6, p7, p8, p9)
noncomputable def spec_l02Ok_l17 (p0 : Bool) (p1 p2 : Int) (p3 p4 : Bool) (p5 : T0_) (p6 : List Int) (p7 : T1_) (p8 : List Ty_Type) (p9 : Int) : Option (Bool) := Sem E ⟨96, 0, some 17⟩ (p0, p1, p2, p3, p4, p5, p6, p7, p8, p9)
noncomputable def spec_l02Int (p0 p1 : Int) (p2 p3 : Bool) (p4 : T0_) (p5 : List Int) (p6 : T1_) (p7 : List Ty_Type) (p8 : Int) : Option (Bool) := Sem E ⟨179, 0, none⟩ (p0, p1, p2, p3, p4, p5, p6, p7, p8)
noncomputable def spec_l00Has (p0 : List Int) (p1 : Int) : Option (Bool) := Sem E ⟨103, 0, none⟩ (p0, p1)
noncomputable def spec_l00Has_l2 (p0 : List Int) (p1 p2 : Int) : Option (Bool) := Sem E ⟨103, 0, some 2⟩ (p0, p1, p2)
noncomputable def spec_l00In (p0 p1 p2 : Int) : Option (Bool) := Sem E ⟨118, 0, none⟩ (p0, p1, p2)
noncomputable def spec_l02Enum (p0 p1 : Int) (p2 p3 : Bool) (p4 : T0_) (p5 : List Int) (p6 : T1_) (p7 : List Ty_Type) (p8 : Int) : Option (Bool) := Sem E ⟨180, 0, none⟩ (p0, p1, p2, p3, p4, p5, p6, p7, p8)
noncomputable def spec_l02Enum_l7 (p0 p1 p2 p3 p4 : Int) (p5 p6 : Bool) (p7 : T0_) (p8 : List Int) (p9 : T1_) (pa : List Ty_Type) (pb : Int) : Option (Bool) := Sem E ⟨180, 0, some 7⟩ (p0, p1, p2, p3, p4, p5, p6, p7, p8, p9, pa, pb)
noncomputable def spec_l02Enum_l12 (p0 p1 p2 p3 p4 p5 : Int) (p6 p7 : Bool) (p8 : T0_) (p9 : List Int) (pa : T1_) (pb : List Ty_Type) (pc : Int) : Option (Bool) := Sem E ⟨180, 0, some 12⟩ (p0, p1, p2, p3, p4, p5, p6, p7, p8, p9, pa, pb, pc)
noncomputable def spec_l02Plain (p0 p1 : Int) (p2 p3 : Bool) (p4 : T0_) (p5 : List Int) (p6 : T1_) (p7 : List Ty_Type) (p8 : Int) : Option (Bool) := Sem E ⟨183, 0, none⟩ (p0, p1, p2, p3, p4, p5, p6, p7, p8)
noncomputable def spec_l02Range (p0 p1 : Int) (p2 p3 : Bool) (p4 : T0_) (p5 : List Int) (p6 : T1_) (p7 : List Ty_Type) (p8 : Int) : Option (Int × Int) := Sem E ⟨247, 0, none⟩ (p0, p1, p2, p3, p4, p5, p6, p7, p8)
noncomputable def spec_IsName (s : ByteArray) : Option (Bool) := Sem E ⟨125, 0, none⟩ s
noncomputable def spec_IsName_l4 (p0 : ByteArray) (p1 : Int) : Option (Bool) := Sem E ⟨125, 0, some 4⟩ (p0, p1)
noncomputable def spec_l01Letter (c : Int) : Option (Bool) := Sem E ⟨200, 0, none⟩ c
noncomputable def spec_l02Compound (p0 p1 : Int) (p2 p3 : Bool) (p4 : T0_) (p5 : List Int) (p6 : T1_) (p7 : List Ty_Type) (p8 : Int) : Option (Bool) := Sem E ⟨181, 0, none⟩ (p0, p1, p2, p3, p4, p5, p6, p7, p8)
noncomputable def spec_l02Compound_l7 (p0 p1 p2 p3 : Int) (p4 p5 : Bool) (p6 : T0_) (p7 : List Int) (p8 : T1_) (p9 : List Ty_Type) (pa : Int) : Option (Bool) := Sem E ⟨181, 0, some 7⟩ (p0, p1, p2, p3, p4, p5, p6, p7, p8, p9, pa)
noncomputable def spec_l02Compound_l13 (p0 p1 p2 p3 : Int) (p4 p5 : Bool) (p6 : T0_) (p7 : List Int) (p8 : T1_) (p9 : List Ty_Type) (pa : Int) (pb : ByteArray) (pc pd pe : Int) (pf pg : Bool) (ph : T0_) (pi : List Int) (pj : T1_) (pk : List Ty_Type) (pl : Int) : Option (Bool) := Sem E ⟨181, 0, some 13⟩ (p0, p1, p2, p3, p4, p5, p6, p7, p8, p9, pa, pb, pc, pd, pe, pf, pg, ph, pi, pj, pk, pl)
noncomputable def spec_l02Size (p0 p1 : Int) (p2 p3 : Bool) (p4 : T0_) (p5 : List Int) (p6 : T1_) (p7 : List Ty_Type) (p8 : Int) : Option (Int) := Sem E ⟨145, 0, none⟩ (p0, p1, p2, p3, p4, p5, p6, p7, p8)
noncomputable def spec_l02Array (p0 p1 : Int) (p2 p3 : Bool) (p4 : T0_) (p5 : List Int) (p6 : T1_) (p7 : List Ty_Type) (p8 : Int) : Option (Bool) := Sem E ⟨182, 0, none⟩ (p0, p1, p2, p3, p4, p5, p6, p7, p8)
noncomputable def spec_l02Depth (p0 p1 : Int) (p2 p3 : Bool) (p4 : T0_) (p5 : List Int) (p6 : T1_) (p7 : List Ty_Type) (p8 : Int) : Option (Int) := Sem E ⟨184, 0, none⟩ (p0, p1, p2, p3, p4, p5, p6, p7, p8)
noncomputable def spec_l02Depth_l5 (p0 p1 p2 p3 : Int) (p4 p5 : Bool) (p6 : T0_) (p7 : List Int) (p8 : T1_) (p9 : List Ty_Type) (pa : Int) : Option (Int) := Sem E ⟨184, 0, some 5⟩ (p0, p1, p2, p3, p4, p5, p6, p7, p8, p9, pa)
noncomputable def spec_l00Max (p0 p1 : Int) : Option (Int) := Sem E ⟨248, 0, none⟩ (p0, p1)
noncomputable def spec_EncodeType (p0 p1 : Int) (p2 p3 : Bool) (p4 : T0_) (p5 : List Int) (p6 : T1_) (p7 : List Ty_Type) (p8 : Int) : Option (ByteArray) := Sem E ⟨97, 0, none⟩ (p0, p1, p2, p3, p4, p5, p6, p7, p8)
noncomputable def spec_l02Encode (p0 p1 : Int) (p2 p3 : Bool) (p4 : T0_) (p5 : List Int) (p6 : T1_) (p7 : List Ty_Type) (p8 : Int) : Option (ByteArray) := Sem E ⟨185, 0, none⟩ (p0, p1, p2, p3, p4, p5, p6, p7, p8)
noncomputable def spec_l02Encode_l15 (p0 : ByteArray) (p1 p2 p3 : Int) (p4 p5 : Bool) (p6 : T0_) (p7 : List Int) (p8 : T1_) (p9 : List Ty_Type) (pa : Int) : Option (ByteArray) := Sem E ⟨185, 0, some 15⟩ (p0, p1, p2, p3, p4, p5, p6, p7, p8, p9, pa)
noncomputable def spec_l02Encode_l21 (p0 : ByteArray) (p1 p2 p3 : Int) (p4 p5 : Bool) (p6 : T0_) (p7 : List Int) (p8 : T1_) (p9 : List Ty_Type) (pa : Int) : Option (ByteArray) := Sem E ⟨185, 0, some 21⟩ (p0, p1, p2, p3, p4, p5, p6, p7, p8, p9, pa)
noncomputable def spec_l02Byte (n : Int) : Option (ByteArray) := Sem E ⟨224, 0, none⟩ n
noncomputable def spec_l02Put (p0 p1 : Int) (p2 : Bool) : Option (ByteArray) := Sem E ⟨249, 0, none⟩ (p0, p1, p2)
noncomputable def spec_l02Put_l3 (p0 p1 : Int) (p2 : Bool) (p3 : ByteArray) (p4 : Int) : Option (ByteArray) := Sem E ⟨249, 0, some 3⟩ (p0, p1, p2, p3, p4)
noncomputable def spec_l05Dims (dims : List Int) : Option (Bool) := Sem E ⟨98, 0, none⟩ dims
noncomputable def spec_l05Dims_l5 (p0 : List Int) (p1 p2 : Int) : Option (Bool) := Sem E ⟨98, 0, some 5⟩ (p0, p1, p2)
noncomputable def spec_l03Ok (p0 p1 : Int) (p2 p3 : Bool) (p4 : T0_) (p5 : List Int) (p6 : T1_) (p7 : List Ty_Type) (p8 : Int) (p9 : ByteArray) : Option (Bool) := Sem E ⟨99, 0, none⟩ (p0, p1, p2, p3, p4, p5, p6, p7, p8, p9)
noncomputable def spec_l03Ok_l13 (p0 : ByteArray) (p1 p2 p3 p4 : Int) (p5 p6 : Bool) (p7 : T0_) (p8 : List Int) (p9 : T1_) (pa : List Ty_Type) (pb : Int) : Option (Bool) := Sem E ⟨99, 0, some 13⟩ (p0, p1, p2, p3, p4, p5, p6, p7, p8, p9, pa, pb)
noncomputable def spec_l03Text (b : ByteArray) : Option (Bool) := Sem E ⟨186, 0, none⟩ b
noncomputable def spec_l03Text_l3 (p0 : ByteArray) (p1 : Bool) (p2 : Int) : Option (Bool) := Sem E ⟨186, 0, some 3⟩ (p0, p1, p2)
noncomputable def spec_l03Number (p0 p1 : Int) (p2 p3 : Bool) (p4 : T0_) (p5 : List Int) (p6 : T1_) (p7 : List Ty_Type) (p8 : Int) (p9 : ByteArray) : Option (Int) := Sem E ⟨143, 0, none⟩ (p0, p1, p2, p3, p4, p5, p6, p7, p8, p9)
noncomputable def spec_l03Number_l3 (p0 : ByteArray) (p1 p2 p3 p4 : Int) (p5 p6 : Bool) (p7 : T0_) (p8 : List Int) (p9 : T1_) (pa : List Ty_Type) (pb : Int) : Option (Int) := Sem E ⟨143, 0, some 3⟩ (p0, p1, p2, p3, p4, p5, p6, p7, p8, p9, pa, pb)
noncomputable def spec_l03Compound (p0 p1 : Int) (p2 p3 : Bool) (p4 : T0_) (p5 : List Int) (p6 : T1_) (p7 : List Ty_Type) (p8 : Int) (p9 : ByteArray) : Option (Bool) := Sem E ⟨187, 0, none⟩ (p0, p1, p2, p3, p4, p5, p6, p7, p8, p9)
noncomputable def spec_l03Compound_l3 (p0 : ByteArray) (p1 p2 p3 p4 : Int) (p5 p6 : Bool) (p7 : T0_) (p8 : List Int) (p9 : T1_) (pa : List Ty_Type) (pb : Int) : Option (Bool) := Sem E ⟨187, 0, some 3⟩ (p0, p1, p2, p3, p4, p5, p6, p7, p8, p9, pa, pb)
noncomputable def spec_l03Compound_l8 (p0 : ByteArray) (p1 p2 p3 p4 p5 : Int) (p6 p7 : Bool) (p8 : T0_) (p9 : List Int) (pa : T1_) (pb : List Ty_Type) (pc : Int) : Option (Bool) := Sem E ⟨187, 0, some 8⟩ (p0, p1, p2, p3, p4, p5, p6, p7, p8, p9, pa, pb, pc)
noncomputable def spec_l24Formed (p0 : ByteArray) (p1 : Int) (p2 p3 p4 p5 : List Int) (p6 : T2_) (p7 : Int) (p8 p9 pa pb : List Int) (pc : T2_) : Option (Bool) := Sem E ⟨100, 0, none⟩ (p0, p1, p2, p3, p4, p5, p6, p7, p8, p9, pa, pb, pc)
noncomputable def spec_ValidPath (s : ByteArray) : Option (Bool) := Sem E ⟨121, 0, none⟩ s
noncomputable def spec_l17Split (s : ByteArray) : Option (Bool × List ByteArray) := Sem E ⟨198, 0, none⟩ s
noncomputable def spec_l17Split_l8 (p0 : ByteArray) (p1 p2 : Int) (p3 : T0_) : Option (Bool × List ByteArray) := Sem E ⟨198, 0, some 8⟩ (p0, p1, p2, p3)
noncomputable def spec_l06Formed (p0 : Int) (p1 p2 p3 p4 : List Int) (p5 : T2_) : Option (Bool) := Sem E ⟨188, 0, none⟩ (p0, p1, p2, p3, p4, p5)
noncomputable def spec_l06Plain (p0 : Int) (p1 p2 p3 p4 : List Int) (p5 : T2_) : Option (Bool) := Sem E ⟨250, 0, none⟩ (p0, p1, p2, p3, p4, p5)
noncomputable def spec_l06Slab (p0 : Int) (p1 p2 p3 p4 : List Int) (p5 : T2_) : Option (Bool) := Sem E ⟨251, 0, none⟩ (p0, p1, p2, p3, p4, p5)
noncomputable def spec_l06Slab_l5 (p0 p1 p2 : Int) (p3 p4 p5 p6 : List Int) (p7 : T2_) : Option (Bool) := Sem E ⟨251, 0, some 5⟩ (p0, p1, p2, p3, p4, p5, p6, p7)
noncomputable def spec_l06End (p0 : Int) (p1 p2 p3 p4 : List Int) (p5 : T2_) (p6 : Int) : Option (Int) := Sem E ⟨190, 0, none⟩ (p0, p1, p2, p3, p4, p5, p6)
noncomputable def spec_l06Points (list : List (List Int)) : Option (Bool) := Sem E ⟨252, 0, none⟩ list
noncomputable def spec_l06Points_l4 (p0 : T2_) (p1 : Int) : Option (Bool) := Sem E ⟨252, 0, some 4⟩ (p0, p1)
noncomputable def spec_l06Points_l9 (p0 : T2_) (p1 p2 : Int) : Option (Bool) := Sem E ⟨252, 0, some 9⟩ (p0, p1, p2)
noncomputable def spec_l24Encode (p0 : ByteArray) (p1 : Int) (p2 p3 p4 p5 : List Int) (p6 : T2_) (p7 : Int) (p8 p9 pa pb : List Int) (pc : T2_) : Option (ByteArray) := Sem E ⟨189, 0, none⟩ (p0, p1, p2, p3, p4, p5, p6, p7, p8, p9, pa, pb, pc)
noncomputable def spec_l24Bytes (list : List Int) : Option (ByteArray) := Sem E ⟨253, 0, none⟩ list
noncomputable def spec_l24Bytes_l3 (p0 : List Int) (p1 : Int) (p2 : List Int) : Option (ByteArray) := Sem E ⟨253, 0, some 3⟩ (p0, p1, p2)
noncomputable def spec_l24Selection (p0 : Int) (p1 p2 p3 p4 : List Int) (p5 : T2_) : Option (ByteArray) := Sem E ⟨254, 0, none⟩ (p0, p1, p2, p3, p4, p5)
noncomputable def spec_l24Selection_l9 (p0 : ByteArray) (p1 p2 : Int) (p3 p4 p5 p6 : List Int) (p7 : T2_) : Option (ByteArray) := Sem E ⟨254, 0, some 9⟩ (p0, p1, p2, p3, p4, p5, p6, p7)
noncomputable def spec_l06Valid (p0 : List Int) (p1 : Int) (p2 p3 p4 p5 : List Int) (p6 : T2_) : Option (Bool) := Sem E ⟨101, 0, none⟩ (p0, p1, p2, p3, p4, p5, p6)
noncomputable def spec_l06Valid_l8 (p0 : List Int) (p1 p2 : Int) (p3 p4 p5 p6 : List Int) (p7 : T2_) : Option (Bool) := Sem E ⟨101, 0, some 8⟩ (p0, p1, p2, p3, p4, p5, p6, p7)
noncomputable def spec_l06Valid_l14 (p0 : List Int) (p1 p2 : Int) (p3 p4 p5 p6 : List Int) (p7 : T2_) : Option (Bool) := Sem E ⟨101, 0, some 14⟩ (p0, p1, p2, p3, p4, p5, p6, p7)
noncomputable def spec_l05Inside (p0 p1 : List Int) : Option (Bool) := Sem E ⟨102, 0, none⟩ (p0, p1)
noncomputable def spec_l05Inside_l4 (p0 p1 : List Int) (p2 : Int) : Option (Bool) := Sem E ⟨102, 0, some 4⟩ (p0, p1, p2)
noncomputable def spec_l24Has (p0 : T0_) (p1 : ByteArray) : Option (Bool) := Sem E ⟨53, 0, none⟩ (p0, p1)
noncomputable def spec_l24Has_l2 (p0 : T0_) (p1 : ByteArray) (p2 : Int) : Option (Bool) := Sem E ⟨53, 0, some 2⟩ (p0, p1, p2)
noncomputable def impl_SourcePaths (p0 p1 : Int) (p2 p3 : Bool) (p4 : T0_) (p5 : List Int) (p6 : T1_) (p7 : List Ty_Type) (p8 : Int) (p9 : List Int) (pa : ByteArray) (pb : T3_) : Option (List ByteArray) := Sem E ⟨17, 0, none⟩ (p0, p1, p2, p3, p4, p5, p6, p7, p8, p9, pa, pb)
noncomputable def impl_ValidVirtual (p0 p1 : Int) (p2 p3 : Bool) (p4 : T0_) (p5 : List Int) (p6 : T1_) (p7 : List Ty_Type) (p8 : Int) (p9 : List Int) (pa : ByteArray) (pb : T3_) : Option (Bool) := Sem E ⟨41, 0, none⟩ (p0, p1, p2, p3, p4, p5, p6, p7, p8, p9, pa, pb)
noncomputable def impl_typeFits (p0 p1 : Int) (p2 p3 : Bool) (p4 : T0_) (p5 : List Int) (p6 : T1_) (p7 : List Ty_Type) (p8 : Int) : Option (Bool) := Sem E ⟨88, 0, none⟩ (p0, p1, p2, p3, p4, p5, p6, p7, p8)
noncomputable def impl_ValidType (p0 p1 : Int) (p2 p3 : Bool) (p4 : T0_) (p5 : List Int) (p6 : T1_) (p7 : List Ty_Type) (p8 : Int) : Option (Bool) := Sem E ⟨147, 0, none⟩ (p0, p1, p2, p3, p4, p5, p6, p7, p8)
noncomputable def impl_Type_valid (p0 p1 : Int) (p2 p3 : Bool) (p4 : T0_) (p5 : List Int) (p6 : T1_) (p7 : List Ty_Type) (p8 p9 : Int) : Option (Bool) := Sem E ⟨226, 0, none⟩ (p0, p1, p2, p3, p4, p5, p6, p7, p8, p9)
noncomputable def impl_Type_only (p0 p1 : Int) (p2 p3 : Bool) (p4 : T0_) (p5 : List Int) (p6 : T1_) (p7 : List Ty_Type) (p8 : Int) : Option (Int × Int × Bool × Bool × List ByteArray × List Int × List (ByteArray × Int × Ty_Type) × List Ty_Type × Int) := Sem E ⟨277, 0, none⟩ (p0, p1, p2, p3, p4, p5, p6, p7, p8)
noncomputable def impl_SameType (p0 p1 : Int) (p2 p3 : Bool) (p4 : T0_) (p5 : List Int) (p6 : T1_) (p7 : List Ty_Type) (p8 p9 pa : Int) (pb pc : Bool) (pd : T0_) (pe : List Int) (pf : T1_) (pg : List Ty_Type) (ph : Int) : Option (Bool) := Sem E ⟨213, 0, none⟩ (p0, p1, p2, p3, p4, p5, p6, p7, p8, p9, pa, pb, pc, pd, pe, pf, pg, ph)
noncomputable def slices_Equal_sstring_string (p0 p1 : T0_) : Option (Bool) := Sem E ⟨273, 0, none⟩ (p0, p1)
noncomputable def slices_Equal_sstring_string_l4 (p0 p1 : T0_) (p2 p3 : Int) : Option (Bool) := Sem E ⟨273, 0, some 4⟩ (p0, p1, p2, p3)
noncomputable def slices_Equal_sint64_int64 (p0 p1 : List Int) : Option (Bool) := Sem E ⟨135, 0, none⟩ (p0, p1)
noncomputable def slices_Equal_sint64_int64_l4 (p0 p1 : List Int) (p2 p3 : Int) : Option (Bool) := Sem E ⟨135, 0, some 4⟩ (p0, p1, p2, p3)
noncomputable def slices_EqualFunc_simpl_Member_simpl_Member_impl_Member_impl_Member_dd_sameMember (p0 p1 : T1_) : Option (Bool) := Sem E ⟨274, 0, none⟩ (p0, p1)
noncomputable def slices_EqualFunc_simpl_Member_simpl_Member_impl_Member_impl_Member_dd_sameMember_l4 (p0 p1 : T1_) (p2 p3 : Int) : Option (Bool) := Sem E ⟨274, 0, some 4⟩ (p0, p1, p2, p3)
noncomputable def impl_sameMember (p0 : ByteArray) (p1 p2 p3 : Int) (p4 p5 : Bool) (p6 : T0_) (p7 : List Int) (p8 : T1_) (p9 : List Ty_Type) (pa : Int) (pb : ByteArray) (pc pd pe : Int) (pf pg : Bool) (ph : T0_) (pi : List Int) (pj : T1_) (pk : List Ty_Type) (pl : Int) : Option (Bool) := Sem E ⟨275, 0, none⟩ (p0, p1, p2, p3, p4, p5, p6, p7, p8, p9, pa, pb, pc, pd, pe, pf, pg, ph, pi, pj, pk, pl)
noncomputable def slices_EqualFunc_simpl_Type_simpl_Type_impl_Type_impl_Type_dd_SameType (p0 p1 : List Ty_Type) : Option (Bool) := Sem E ⟨276, 0, none⟩ (p0, p1)
noncomputable def slices_EqualFunc_simpl_Type_simpl_Type_impl_Type_impl_Type_dd_SameType_l4 (p0 p1 : List Ty_Type) (p2 p3 : Int) : Option (Bool) := Sem E ⟨276, 0, some 4⟩ (p0, p1, p2, p3)
noncomputable def impl_Type_intOk (p0 p1 : Int) (p2 p3 : Bool) (p4 : T0_) (p5 : List Int) (p6 : T1_) (p7 : List Ty_Type) (p8 : Int) : Option (Bool) := Sem E ⟨278, 0, none⟩ (p0, p1, p2, p3, p4, p5, p6, p7, p8)
noncomputable def slices_Contains_sint64_int64 (p0 : List Int) (p1 : Int) : Option (Bool) := Sem E ⟨50, 0, none⟩ (p0, p1)
noncomputable def slices_Index_sint64_int64 (p0 : List Int) (p1 : Int) : Option (Int) := Sem E ⟨108, 0, none⟩ (p0, p1)
noncomputable def slices_Index_sint64_int64_l2 (p0 : List Int) (p1 p2 p3 : Int) : Option (Int) := Sem E ⟨108, 0, some 2⟩ (p0, p1, p2, p3)
noncomputable def impl_within (p0 p1 p2 : Int) : Option (Bool) := Sem E ⟨106, 0, none⟩ (p0, p1, p2)
noncomputable def impl_Type_enumOk (p0 p1 : Int) (p2 p3 : Bool) (p4 : T0_) (p5 : List Int) (p6 : T1_) (p7 : List Ty_Type) (p8 : Int) : Option (Bool) := Sem E ⟨279, 0, none⟩ (p0, p1, p2, p3, p4, p5, p6, p7, p8)
noncomputable def impl_Type_enumOk_l5 (p0 p1 : Int) (p2 : List Int) (p3 p4 p5 p6 : Int) (p7 p8 : Bool) (p9 : T0_) (pa : List Int) (pb : T1_) (pc : List Ty_Type) (pd : Int) : Option (Bool) := Sem E ⟨279, 0, some 5⟩ (p0, p1, p2, p3, p4, p5, p6, p7, p8, p9, pa, pb, pc, pd)
noncomputable def impl_Type_intRange (p0 p1 : Int) (p2 p3 : Bool) (p4 : T0_) (p5 : List Int) (p6 : T1_) (p7 : List Ty_Type) (p8 : Int) : Option (Int × Int) := Sem E ⟨298, 0, none⟩ (p0, p1, p2, p3, p4, p5, p6, p7, p8)
noncomputable def impl_differentNames (names : List ByteArray) : Option (Bool) := Sem E ⟨299, 0, none⟩ names
noncomputable def impl_differentNames_l2 (p0 p1 : T0_) (p2 p3 : Int) : Option (Bool) := Sem E ⟨299, 0, some 2⟩ (p0, p1, p2, p3)
noncomputable def impl_IsName (s : ByteArray) : Option (Bool) := Sem E ⟨130, 0, none⟩ s
noncomputable def impl_IsName_l2 (p0 : ByteArray) (p1 p2 : Int) : Option (Bool) := Sem E ⟨130, 0, some 2⟩ (p0, p1, p2)
noncomputable def impl_IsName_l6 (p0 : ByteArray) (p1 p2 : Int) (p3 : Bool) (p4 p5 : Int) : Option (Bool) := Sem E ⟨130, 0, some 6⟩ (p0, p1, p2, p3, p4, p5)
noncomputable def slices_Contains_sstring_string (p0 : T0_) (p1 : ByteArray) : Option (Bool) := Sem E ⟨112, 0, none⟩ (p0, p1)
noncomputable def slices_Index_sstring_string (p0 : T0_) (p1 : ByteArray) : Option (Int) := Sem E ⟨192, 0, none⟩ (p0, p1)
noncomputable def slices_Index_sstring_string_l2 (p0 : T0_) (p1 : ByteArray) (p2 p3 : Int) : Option (Int) := Sem E ⟨192, 0, some 2⟩ (p0, p1, p2, p3)
noncomputable def impl_Type_compoundOk (p0 p1 : Int) (p2 p3 : Bool) (p4 : T0_) (p5 : List Int) (p6 : T1_) (p7 : List Ty_Type) (p8 p9 : Int) : Option (Bool) := Sem E ⟨280, 0, none⟩ (p0, p1, p2, p3, p4, p5, p6, p7, p8, p9)
noncomputable def impl_Type_compoundOk_l6 (p0 p1 : Int) (p2 : T1_) (p3 p4 p5 p6 : Int) (p7 p8 : Bool) (p9 : T0_) (pa : List Int) (pb : T1_) (pc : List Ty_Type) (pd : Int) (pe : T0_) : Option (Bool) := Sem E ⟨280, 0, some 6⟩ (p0, p1, p2, p3, p4, p5, p6, p7, p8, p9, pa, pb, pc, pd, pe)
noncomputable def impl_Type_size (p0 p1 : Int) (p2 p3 : Bool) (p4 : T0_) (p5 : List Int) (p6 : T1_) (p7 : List Ty_Type) (p8 : Int) : Option (Int) := Sem E ⟨169, 0, none⟩ (p0, p1, p2, p3, p4, p5, p6, p7, p8)
noncomputable def impl_Type_encode (p0 p1 : Int) (p2 p3 : Bool) (p4 : T0_) (p5 : List Int) (p6 : T1_) (p7 : List Ty_Type) (p8 : Int) : Option (ByteArray) := Sem E ⟨167, 0, none⟩ (p0, p1, p2, p3, p4, p5, p6, p7, p8)
noncomputable def impl_Type_encode_l10 (p0 : ByteArray) (p1 : T0_) (p2 p3 p4 p5 : Int) (p6 p7 : Bool) (p8 : T0_) (p9 : List Int) (pa : T1_) (pb : List Ty_Type) (pc : Int) : Option (ByteArray) := Sem E ⟨167, 0, some 10⟩ (p0, p1, p2, p3, p4, p5, p6, p7, p8, p9, pa, pb, pc)
noncomputable def impl_Type_encode_l17 (p0 : ByteArray) (p1 : T1_) (p2 p3 : Int) : Option (ByteArray) := Sem E ⟨167, 0, some 17⟩ (p0, p1, p2, p3)
noncomputable def impl_putBytes (p0 p1 : Int) : Option (ByteArray) := Sem E ⟨238, 0, none⟩ (p0, p1)
noncomputable def impl_putBytes_l3 (p0 p1 p2 : Int) (p3 : List Int) : Option (ByteArray) := Sem E ⟨238, 0, some 3⟩ (p0, p1, p2, p3)
noncomputable def impl_truth (is : Bool) : Option (Int) := Sem E ⟨239, 0, none⟩ is
noncomputable def impl_putName (s : ByteArray) : Option (ByteArray) := Sem E ⟨240, 0, none⟩ s
noncomputable def impl_ValidDims (dims : List Int) : Option (Bool) := Sem E ⟨89, 0, none⟩ dims
noncomputable def impl_allWithin (p0 : List Int) (p1 p2 : Int) : Option (Bool) := Sem E ⟨168, 0, none⟩ (p0, p1, p2)
noncomputable def slices_ContainsFunc_sint64_int64_d_allWithin_1 (p0 : List Int) (p1 p2 : Int) : Option (Bool) := Sem E ⟨241, 0, none⟩ (p0, p1, p2)
noncomputable def slices_IndexFunc_sint64_int64_d_allWithin_1 (p0 : List Int) (p1 p2 : Int) : Option (Int) := Sem E ⟨289, 0, none⟩ (p0, p1, p2)
noncomputable def slices_IndexFunc_sint64_int64_d_allWithin_1_l2 (p0 : List Int) (p1 p2 p3 p4 : Int) : Option (Int) := Sem E ⟨289, 0, some 2⟩ (p0, p1, p2, p3, p4)
noncomputable def impl_allWithin_1 (p0 p1 p2 : Int) : Option (Bool) := Sem E ⟨242, 0, none⟩ (p0, p1, p2)
noncomputable def impl_product (list : List Int) : Option (Int) := Sem E ⟨109, 0, none⟩ list
noncomputable def impl_product_l3 (p0 : Int) (p1 : List Int) (p2 p3 : Int) : Option (Int) := Sem E ⟨109, 0, some 3⟩ (p0, p1, p2, p3)
noncomputable def impl_Type_isElement (p0 p1 : Int) (p2 p3 : Bool) (p4 : T0_) (p5 : List Int) (p6 : T1_) (p7 : List Ty_Type) (p8 : Int) (p9 : ByteArray) : Option (Bool) := Sem E ⟨90, 0, none⟩ (p0, p1, p2, p3, p4, p5, p6, p7, p8, p9)
noncomputable def impl_trimmed (b : ByteArray) : Option (ByteArray) := Sem E ⟨153, 0, none⟩ b
noncomputable def strings_TrimRight (p0 p1 : ByteArray) : Option (ByteArray) := Sem E ⟨234, 0, none⟩ (p0, p1)
noncomputable def strings_Contains (p0 p1 : ByteArray) : Option (Bool) := Sem E ⟨170, 0, none⟩ (p0, p1)
noncomputable def impl_Type_number (p0 p1 : Int) (p2 p3 : Bool) (p4 : T0_) (p5 : List Int) (p6 : T1_) (p7 : List Ty_Type) (p8 : Int) (p9 : ByteArray) : Option (Int) := Sem E ⟨151, 0, none⟩ (p0, p1, p2, p3, p4, p5, p6, p7, p8, p9)
noncomputable def impl_ReverseBytes (s : ByteArray) : Option (ByteArray) := Sem E ⟨229, 0, none⟩ s
noncomputable def slices_Reverse_sbyte_byte_v (s : List Int) : Option (List Int) := Sem E ⟨283, 0, none⟩ s
noncomputable def slices_Reverse_sbyte_byte_v_l1 (p0 p1 : Int) (p2 : List Int) : Option (List Int) := Sem E ⟨283, 0, some 1⟩ (p0, p1, p2)
noncomputable def impl_signed (s : ByteArray) : Option (Int) := Sem E ⟨230, 0, none⟩ s
noncomputable def impl_getBits (s : ByteArray) : Option (Int) := Sem E ⟨231, 0, none⟩ s
noncomputable def impl_getBits_l3 (p0 : ByteArray) (p1 p2 p3 : Int) : Option (Int) := Sem E ⟨231, 0, some 3⟩ (p0, p1, p2, p3)
noncomputable def impl_Type_gapsOk (p0 p1 : Int) (p2 p3 : Bool) (p4 : T0_) (p5 : List Int) (p6 : T1_) (p7 : List Ty_Type) (p8 : Int) (p9 : ByteArray) : Option (Bool) := Sem E ⟨171, 0, none⟩ (p0, p1, p2, p3, p4, p5, p6, p7, p8, p9)
noncomputable def impl_Type_gapsOk_l3 (p0 : T1_) (p1 p2 : Int) (p3 : List Int) : Option (Bool) := Sem E ⟨171, 0, some 3⟩ (p0, p1, p2, p3)
noncomputable def impl_Type_parts (p0 p1 : Int) (p2 p3 : Bool) (p4 : T0_) (p5 : List Int) (p6 : T1_) (p7 : List Ty_Type) (p8 : Int) (p9 : ByteArray) : Option (List (Ty_Type × ByteArray)) := Sem E ⟨148, 0, none⟩ (p0, p1, p2, p3, p4, p5, p6, p7, p8, p9)
noncomputable def impl_Type_parts_l5 (p0 : ByteArray) (p1 : T1_) (p2 p3 : Int) (p4 : List (Ty_Type × ByteArray)) : Option (List (Ty_Type × ByteArray)) := Sem E ⟨148, 0, some 5⟩ (p0, p1, p2, p3, p4)
noncomputable def impl_Type_parts_l12 (p0 : ByteArray) (p1 p2 p3 p4 p5 : Int) (p6 p7 : Bool) (p8 : T0_) (p9 : List Int) (pa : T1_) (pb : List Ty_Type) (pc : Int) (pd : List (Ty_Type × ByteArray)) : Option (List (Ty_Type × ByteArray)) := Sem E ⟨148, 0, some 12⟩ (p0, p1, p2, p3, p4, p5, p6, p7, p8, p9, pa, pb, pc, pd)
noncomputable def slices_ContainsFunc_simpl_part_impl_part_d_Type_isElement_1 (s : List (Ty_Type × ByteArray)) : Option (Bool) := Sem E ⟨172, 0, none⟩ s
noncomputable def slices_IndexFunc_simpl_part_impl_part_d_Type_isElement_1 (s : List (Ty_Type × ByteArray)) : Option (Int) := Sem E ⟨244, 0, none⟩ s
noncomputable def slices_IndexFunc_simpl_part_impl_part_d_Type_isElement_1_l2 (p0 : List (Ty_Type × ByteArray)) (p1 p2 : Int) : Option (Int) := Sem E ⟨244, 0, some 2⟩ (p0, p1, p2)
noncomputable def impl_Type_isElement_1 (p0 p1 : Int) (p2 p3 : Bool) (p4 : T0_) (p5 : List Int) (p6 : T1_) (p7 : List Ty_Type) (p8 : Int) (p9 : ByteArray) : Option (Bool) := Sem E ⟨173, 0, none⟩ (p0, p1, p2, p3, p4, p5, p6, p7, p8, p9)
noncomputable def slices_ContainsFunc_simpl_Mapping_impl_Mapping_d_ValidVirtual_1 (p0 : T3_) (p1 p2 : Int) (p3 p4 : Bool) (p5 : T0_) (p6 : List Int) (p7 : T1_) (p8 : List Ty_Type) (p9 : Int) (pa : List Int) (pb : ByteArray) (pc : T3_) : Option (Bool) := Sem E ⟨91, 0, none⟩ (p0, p1, p2, p3, p4, p5, p6, p7, p8, p9, pa, pb, pc)
noncomputable def slices_IndexFunc_simpl_Mapping_impl_Mapping_d_ValidVirtual_1 (p0 : T3_) (p1 p2 : Int) (p3 p4 : Bool) (p5 : T0_) (p6 : List Int) (p7 : T1_) (p8 : List Ty_Type) (p9 : Int) (pa : List Int) (pb : ByteArray) (pc : T3_) : Option (Int) := Sem E ⟨174, 0, none⟩ (p0, p1, p2, p3, p4, p5, p6, p7, p8, p9, pa, pb, pc)
noncomputable def slices_IndexFunc_simpl_Mapping_impl_Mapping_d_ValidVirtual_1_l2 (p0 : T3_) (p1 p2 p3 p4 : Int) (p5 p6 : Bool) (p7 : T0_) (p8 : List Int) (p9 : T1_) (pa : List Ty_Type) (pb : Int) (pc : List Int) (pd : ByteArray) (pe : T3_) : Option (Int) := Sem E ⟨174, 0, some 2⟩ (p0, p1, p2, p3, p4, p5, p6, p7, p8, p9, pa, pb, pc, pd, pe)
noncomputable def impl_ValidVirtual_1 (p0 : ByteArray) (p1 : Int) (p2 p3 p4 p5 : List Int) (p6 : T2_) (p7 : Int) (p8 p9 pa pb : List Int) (pc : T2_) (pd pe : Int) (pf pg : Bool) (ph : T0_) (pi : List Int) (pj : T1_) (pk : List Ty_Type) (pl : Int) (pm : List Int) (pn : ByteArray) (po : T3_) : Option (Bool) := Sem E ⟨92, 0, none⟩ (p0, p1, p2, p3, p4, p5, p6, p7, p8, p9, pa, pb, pc, pd, pe, pf, pg, ph, pi, pj, pk, pl, pm, pn, po)
noncomputable def impl_mappingOk (p0 : ByteArray) (p1 : Int) (p2 p3 p4 p5 : List Int) (p6 : T2_) (p7 : Int) (p8 p9 pa pb : List Int) (pc : T2_) : Option (Bool) := Sem E ⟨93, 0, none⟩ (p0, p1, p2, p3, p4, p5, p6, p7, p8, p9, pa, pb, pc)
noncomputable def impl_ValidPath (s : ByteArray) : Option (Bool) := Sem E ⟨129, 0, none⟩ s
noncomputable def impl_splitPath (s : ByteArray) : Option (List ByteArray × Bool) := Sem E ⟨206, 0, none⟩ s
noncomputable def strings_CutPrefix (p0 p1 : ByteArray) : Option (ByteArray × Bool) := Sem E ⟨264, 0, none⟩ (p0, p1)
noncomputable def strings_Split (p0 p1 : ByteArray) : Option (List ByteArray) := Sem E ⟨265, 0, none⟩ (p0, p1)
noncomputable def slices_ContainsFunc_sstring_string_d_splitPath_1 (s : List ByteArray) : Option (Bool) := Sem E ⟨266, 0, none⟩ s
noncomputable def slices_IndexFunc_sstring_string_d_splitPath_1 (s : List ByteArray) : Option (Int) := Sem E ⟨295, 0, none⟩ s
noncomputable def slices_IndexFunc_sstring_string_d_splitPath_1_l2 (p0 : T0_) (p1 p2 : Int) : Option (Int) := Sem E ⟨295, 0, some 2⟩ (p0, p1, p2)
noncomputable def impl_splitPath_1 (n : ByteArray) : Option (Bool) := Sem E ⟨267, 0, none⟩ n
noncomputable def impl_FormedSelection (p0 : Int) (p1 p2 p3 p4 : List Int) (p5 : T2_) : Option (Bool) := Sem E ⟨132, 0, none⟩ (p0, p1, p2, p3, p4, p5)
noncomputable def impl_SameSelection (p0 : Int) (p1 p2 p3 p4 : List Int) (p5 : T2_) (p6 : Int) (p7 p8 p9 pa : List Int) (pb : T2_) : Option (Bool) := Sem E ⟨136, 0, none⟩ (p0, p1, p2, p3, p4, p5, p6, p7, p8, p9, pa, pb)
noncomputable def impl_Selection_lists (p0 : Int) (p1 p2 p3 p4 : List Int) (p5 : T2_) : Option (List (List Int)) := Sem E ⟨217, 0, none⟩ (p0, p1, p2, p3, p4, p5)
noncomputable def slices_EqualFunc_ssint64_ssint64_sint64_sint64_dd_Equal_sint64_int64 (p0 p1 : T2_) : Option (Bool) := Sem E ⟨216, 0, none⟩ (p0, p1)
noncomputable def slices_EqualFunc_ssint64_ssint64_sint64_sint64_dd_Equal_sint64_int64_l4 (p0 p1 : T2_) (p2 p3 : Int) : Option (Bool) := Sem E ⟨216, 0, some 4⟩ (p0, p1, p2, p3)
noncomputable def slices_EqualFunc_simpl_Point_simpl_Point_impl_Point_impl_Point_dd_samePoint (p0 p1 : T2_) : Option (Bool) := Sem E ⟨218, 0, none⟩ (p0, p1)
noncomputable def slices_EqualFunc_simpl_Point_simpl_Point_impl_Point_impl_Point_dd_samePoint_l4 (p0 p1 : T2_) (p2 p3 : Int) : Option (Bool) := Sem E ⟨218, 0, some 4⟩ (p0, p1, p2, p3)
noncomputable def impl_samePoint (p0 p1 : List Int) : Option (Bool) := Sem E ⟨219, 0, none⟩ (p0, p1)
noncomputable def impl_Selection_slabFormed (p0 : Int) (p1 p2 p3 p4 : List Int) (p5 : T2_) : Option (Bool) := Sem E ⟨210, 0, none⟩ (p0, p1, p2, p3, p4, p5)
noncomputable def impl_Selection_slabFormed_l5 (p0 p1 p2 : Int) (p3 p4 p5 p6 : List Int) (p7 : T2_) : Option (Bool) := Sem E ⟨210, 0, some 5⟩ (p0, p1, p2, p3, p4, p5, p6, p7)
noncomputable def impl_Selection_end (p0 : Int) (p1 p2 p3 p4 : List Int) (p5 : T2_) (p6 : Int) : Option (Int) := Sem E ⟨176, 0, none⟩ (p0, p1, p2, p3, p4, p5, p6)
noncomputable def impl_Selection_pointsFormed (p0 : Int) (p1 p2 p3 p4 : List Int) (p5 : T2_) : Option (Bool) := Sem E ⟨211, 0, none⟩ (p0, p1, p2, p3, p4, p5)
noncomputable def slices_ContainsFunc_simpl_Point_impl_Point_d_Selection_pointsFormed_1 (p0 : T2_) (p1 : Int) : Option (Bool) := Sem E ⟨177, 0, none⟩ (p0, p1)
noncomputable def slices_IndexFunc_simpl_Point_impl_Point_d_Selection_pointsFormed_1 (p0 : T2_) (p1 : Int) : Option (Int) := Sem E ⟨246, 0, none⟩ (p0, p1)
noncomputable def slices_IndexFunc_simpl_Point_impl_Point_d_Selection_pointsFormed_1_l2 (p0 : T2_) (p1 p2 p3 : Int) : Option (Int) := Sem E ⟨246, 0, some 2⟩ (p0, p1, p2, p3)
noncomputable def impl_Selection_pointsFormed_1 (p0 : List Int) (p1 : Int) : Option (Bool) := Sem E ⟨272, 0, none⟩ (p0, p1)
noncomputable def impl_Mapping_encode (p0 : ByteArray) (p1 : Int) (p2 p3 p4 p5 : List Int) (p6 : T2_) (p7 : Int) (p8 p9 pa pb : List Int) (pc : T2_) : Option (ByteArray) := Sem E ⟨175, 0, none⟩ (p0, p1, p2, p3, p4, p5, p6, p7, p8, p9, pa, pb, pc)
noncomputable def impl_Selection_encode (p0 : Int) (p1 p2 p3 p4 : List Int) (p5 : T2_) : Option (ByteArray) := Sem E ⟨245, 0, none⟩ (p0, p1, p2, p3, p4, p5)
noncomputable def impl_Selection_encode_l6 (p0 : ByteArray) (p1 p2 : Int) (p3 : T2_) : Option (ByteArray) := Sem E ⟨245, 0, some 6⟩ (p0, p1, p2, p3)
noncomputable def impl_Selection_encode_l13 (p0 : ByteArray) (p1 : T2_) (p2 p3 : Int) : Option (ByteArray) := Sem E ⟨245, 0, some 13⟩ (p0, p1, p2, p3)
noncomputable def impl_putNumbers (list : List Int) : Option (ByteArray) := Sem E ⟨291, 0, none⟩ list
noncomputable def impl_putNumbers_l3 (p0 : List Int) (p1 p2 : Int) (p3 : List Int) : Option (ByteArray) := Sem E ⟨291, 0, some 3⟩ (p0, p1, p2, p3)
noncomputable def strings_Builder_WriteString_wv (p0 : ByteArray) (p1 : List Int) : Option (Int × List Int) := Sem E ⟨163, 0, none⟩ (p0, p1)
noncomputable def strings_Builder_copyCheck (_u : Unit) : Option (Unit) := Sem E ⟨237, 0, none⟩ ()
noncomputable def strings_Builder_String (x0 : List Int) : Option (ByteArray) := Sem E ⟨165, 0, none⟩ x0
noncomputable def impl_Selection_fits (p0 : Int) (p1 p2 p3 p4 : List Int) (p5 : T2_) (p6 : List Int) : Option (Bool) := Sem E ⟨94, 0, none⟩ (p0, p1, p2, p3, p4, p5, p6)
noncomputable def impl_Selection_fits_l6 (p0 : List Int) (p1 p2 p3 : Int) (p4 p5 p6 p7 : List Int) (p8 : T2_) : Option (Bool) := Sem E ⟨94, 0, some 6⟩ (p0, p1, p2, p3, p4, p5, p6, p7, p8)
noncomputable def slices_ContainsFunc_simpl_Point_impl_Point_d_Selection_fits_1 (p0 : T2_) (p1 : List Int) : Option (Bool) := Sem E ⟨177, 1, none⟩ (p0, p1)
noncomputable def slices_IndexFunc_simpl_Point_impl_Point_d_Selection_fits_1 (p0 : T2_) (p1 : List Int) : Option (Int) := Sem E ⟨246, 1, none⟩ (p0, p1)
noncomputable def slices_IndexFunc_simpl_Point_impl_Point_d_Selection_fits_1_l2 (p0 : T2_) (p1 p2 : Int) (p3 : List Int) : Option (Int) := Sem E ⟨246, 1, some 2⟩ (p0, p1, p2, p3)
noncomputable def impl_Selection_fits_1 (p0 p1 : List Int) : Option (Bool) := Sem E ⟨178, 0, none⟩ (p0, p1)
noncomputable def impl_inDims (p0 p1 : List Int) : Option (Bool) := Sem E ⟨47, 0, none⟩ (p0, p1)
noncomputable def impl_inDims_l4 (p0 p1 : List Int) (p2 p3 : Int) : Option (Bool) := Sem E ⟨47, 0, some 4⟩ (p0, p1, p2, p3)
noncomputable def impl_Virtual_paths (p0 p1 : Int) (p2 p3 : Bool) (p4 : T0_) (p5 : List Int) (p6 : T1_) (p7 : List Ty_Type) (p8 : Int) (p9 : List Int) (pa : ByteArray) (pb : T3_) : Option (List ByteArray) := Sem E ⟨54, 0, none⟩ (p0, p1, p2, p3, p4, p5, p6, p7, p8, p9, pa, pb)
noncomputable def impl_Virtual_paths_l3 (p0 : T3_) (p1 p2 : Int) (p3 : T0_) : Option (List ByteArray) := Sem E ⟨54, 0, some 3⟩ (p0, p1, p2, p3)
noncomputable def laws_eqStringS (p0 p1 : T0_) : Option (Bool) := Sem E ⟨18, 0, none⟩ (p0, p1)
noncomputable def laws_eqStringS_l4 (p0 p1 : T0_) (p2 : Int) : Option (Bool) := Sem E ⟨18, 0, some 4⟩ (p0, p1, p2)
noncomputable def laws_eqVirtual (p0 p1 : Int) (p2 p3 : Bool) (p4 : T0_) (p5 : List Int) (p6 : T1_) (p7 : List Ty_Type) (p8 : Int) (p9 : List Int) (pa : ByteArray) (pb : T3_) (pc pd : Int) (pe pf : Bool) (pg : T0_) (ph : List Int) (pi : T1_) (pj : List Ty_Type) (pk : Int) (pl : List Int) (pm : ByteArray) (pn : T3_) : Option (Bool) := Sem E ⟨14, 0, none⟩ (p0, p1, p2, p3, p4, p5, p6, p7, p8, p9, pa, pb, pc, pd, pe, pf, pg, ph, pi, pj, pk, pl, pm, pn)
noncomputable def laws_eqType (p0 p1 : Int) (p2 p3 : Bool) (p4 : T0_) (p5 : List Int) (p6 : T1_) (p7 : List Ty_Type) (p8 p9 pa : Int) (pb pc : Bool) (pd : T0_) (pe : List Int) (pf : T1_) (pg : List Ty_Type) (ph : Int) : Option (Bool) := Sem E ⟨31, 0, none⟩ (p0, p1, p2, p3, p4, p5, p6, p7, p8, p9, pa, pb, pc, pd, pe, pf, pg, ph)
noncomputable def laws_eqInt64S (p0 p1 : List Int) : Option (Bool) := Sem E ⟨15, 0, none⟩ (p0, p1)
noncomputable def laws_eqInt64S_l4 (p0 p1 : List Int) (p2 : Int) : Option (Bool) := Sem E ⟨15, 0, some 4⟩ (p0, p1, p2)
noncomputable def laws_eqMemberS (p0 p1 : T1_) : Option (Bool) := Sem E ⟨78, 0, none⟩ (p0, p1)
noncomputable def laws_eqMemberS_l4 (p0 p1 : T1_) (p2 : Int) : Option (Bool) := Sem E ⟨78, 0, some 4⟩ (p0, p1, p2)
noncomputable def laws_eqMember (p0 : ByteArray) (p1 p2 p3 : Int) (p4 p5 : Bool) (p6 : T0_) (p7 : List Int) (p8 : T1_) (p9 : List Ty_Type) (pa : Int) (pb : ByteArray) (pc pd pe : Int) (pf pg : Bool) (ph : T0_) (pi : List Int) (pj : T1_) (pk : List Ty_Type) (pl : Int) : Option (Bool) := Sem E ⟨154, 0, none⟩ (p0, p1, p2, p3, p4, p5, p6, p7, p8, p9, pa, pb, pc, pd, pe, pf, pg, ph, pi, pj, pk, pl)
noncomputable def laws_eqTypeS (p0 p1 : List Ty_Type) : Option (Bool) := Sem E ⟨79, 0, none⟩ (p0, p1)
noncomputable def laws_eqTypeS_l4 (p0 p1 : List Ty_Type) (p2 : Int) : Option (Bool) := Sem E ⟨79, 0, some 4⟩ (p0, p1, p2)
noncomputable def laws_eqMappingS (p0 p1 : T3_) : Option (Bool) := Sem E ⟨52, 0, none⟩ (p0, p1)
noncomputable def laws_eqMappingS_l4 (p0 p1 : T3_) (p2 : Int) : Option (Bool) := Sem E ⟨52, 0, some 4⟩ (p0, p1, p2)
noncomputable def laws_eqMapping (p0 : ByteArray) (p1 : Int) (p2 p3 p4 p5 : List Int) (p6 : T2_) (p7 : Int) (p8 p9 pa pb : List Int) (pc : T2_) (pd : ByteArray) (pe : Int) (pf pg ph pi : List Int) (pj : T2_) (pk : Int) (pl pm pn po : List Int) (pp : T2_) : Option (Bool) := Sem E ⟨111, 0, none⟩ (p0, p1, p2, p3, p4, p5, p6, p7, p8, p9, pa, pb, pc, pd, pe, pf, pg, ph, pi, pj, pk, pl, pm, pn, po, pp)
noncomputable def laws_eqSelection (p0 : Int) (p1 p2 p3 p4 : List Int) (p5 : T2_) (p6 : Int) (p7 p8 p9 pa : List Int) (pb : T2_) : Option (Bool) := Sem E ⟨39, 0, none⟩ (p0, p1, p2, p3, p4, p5, p6, p7, p8, p9, pa, pb)
noncomputable def laws_eqPointS (p0 p1 : T2_) : Option (Bool) := Sem E ⟨87, 0, none⟩ (p0, p1)
noncomputable def laws_eqPointS_l4 (p0 p1 : T2_) (p2 : Int) : Option (Bool) := Sem E ⟨87, 0, some 4⟩ (p0, p1, p2)
noncomputable def laws_eqPoint (p0 p1 : List Int) : Option (Bool) := Sem E ⟨166, 0, none⟩ (p0, p1)
noncomputable def laws_markVirtual_vvttvt (p0 p1 : Int) (p2 p3 : Bool) (p4 : Int) (p5 : ByteArray) (p6 : Int) (p7 : T0_) (p8 : List Int) (p9 : T1_) (pa : List Ty_Type) (pb : List Int) (pc : T3_) : Option (Int × List ByteArray × List Int × List (ByteArray × Int × Ty_Type) × List Ty_Type × List Int × List (ByteArray × Int × List Int × List Int × List Int × List Int × List (List Int) × Int × List Int × List Int × List Int × List Int × List (List Int))) := Sem E ⟨19, 0, none⟩ (p0, p1, p2, p3, p4, p5, p6, p7, p8, p9, pa, pb, pc)
noncomputable def laws_markType_vvtt (p0 p1 : Int) (p2 p3 : Bool) (p4 p5 : Int) (p6 : T0_) (p7 : List Int) (p8 : T1_) (p9 : List Ty_Type) : Option (Int × List ByteArray × List Int × List (ByteArray × Int × Ty_Type) × List Ty_Type) := Sem E ⟨55, 0, none⟩ (p0, p1, p2, p3, p4, p5, p6, p7, p8, p9)
noncomputable def laws_markStringS_v (p0 : Int) (p1 : T0_) : Option (Int × List ByteArray) := Sem E ⟨20, 0, none⟩ (p0, p1)
noncomputable def laws_markStringS_v_l2 (p0 p1 : Int) (p2 : T0_) : Option (Int × List ByteArray) := Sem E ⟨20, 0, some 2⟩ (p0, p1, p2)
noncomputable def laws_markText (k : Int) : Option (ByteArray) := Sem E ⟨58, 0, none⟩ k
noncomputable def laws_markText_l4 (p0 : Int) (p1 : ByteArray) : Option (ByteArray) := Sem E ⟨58, 0, some 4⟩ (p0, p1)
noncomputable def laws_markInt64S_v (p0 : Int) (p1 : List Int) : Option (Int × List Int) := Sem E ⟨56, 0, none⟩ (p0, p1)
noncomputable def laws_markInt64S_v_l2 (p0 p1 : Int) (p2 : List Int) : Option (Int × List Int) := Sem E ⟨56, 0, some 2⟩ (p0, p1, p2)
noncomputable def laws_markMemberS_t (p0 : Int) (p1 : T1_) : Option (Int × List (ByteArray × Int × Ty_Type)) := Sem E ⟨113, 0, none⟩ (p0, p1)
noncomputable def laws_markMemberS_t_l2 (p0 p1 : Int) (p2 : T1_) : Option (Int × List (ByteArray × Int × Ty_Type)) := Sem E ⟨113, 0, some 2⟩ (p0, p1, p2)
noncomputable def laws_markTypeS_t (p0 : Int) (p1 : List Ty_Type) : Option (Int × List Ty_Type) := Sem E ⟨114, 0, none⟩ (p0, p1)
noncomputable def laws_markTypeS_t_l2 (p0 p1 : Int) (p2 : List Ty_Type) : Option (Int × List Ty_Type) := Sem E ⟨114, 0, some 2⟩ (p0, p1, p2)
noncomputable def laws_markMappingS_t (p0 : Int) (p1 : T3_) : Option (Int × List (ByteArray × Int × List Int × List Int × List Int × List Int × List (List Int) × Int × List Int × List Int × List Int × List Int × List (List Int))) := Sem E ⟨57, 0, none⟩ (p0, p1)
noncomputable def laws_markMappingS_t_l2 (p0 p1 : Int) (p2 : T3_) : Option (Int × List (ByteArray × Int × List Int × List Int × List Int × List Int × List (List Int) × Int × List Int × List Int × List Int × List Int × List (List Int))) := Sem E ⟨57, 0, some 2⟩ (p0, p1, p2)
noncomputable def laws_markPointS_t (p0 : Int) (p1 : T2_) : Option (Int × List (List Int)) := Sem E ⟨115, 0, none⟩ (p0, p1)
noncomputable def laws_markPointS_t_l2 (p0 p1 : Int) (p2 : T2_) : Option (Int × List (List Int)) := Sem E ⟨115, 0, some 2⟩ (p0, p1, p2)
noncomputable def laws_heldStringS (p0 : T0_) (p1 : Int) : Option (Int) := Sem E ⟨21, 0, none⟩ (p0, p1)
noncomputable def laws_heldStringS_l2 (p0 : T0_) (p1 p2 : Int) : Option (Int) := Sem E ⟨21, 0, some 2⟩ (p0, p1, p2)
end Go.Ve.X
