/- The environment of 'FnExactCutDisk' for the evaluator: kinds of elements, layouts of the functions that it reaches (printed by plan.py). No condition. -/
import Derived.Test.YtejjlklecmdpiabVeC
import Derived.Test.YtejjlklecmdpiabProg
namespace Go.Ve.X
open Go.Proofs Go.Ve
set_option linter.unusedVariables false
set_option maxRecDepth 100000
inductive El | e4 | e5 | e9 | e93 | e94 | z
def El.K : El → Type | .e4 => Bool | .e5 => Int | .e9 => ByteArray | .e93 => Int × ByteArray | .e94 => Int × ByteArray | .z => Unit
def El.sh : El → List TS | .e4 => [.bool] | .e5 => [.int .u8] | .e9 => [.str] | .e93 => [.int .i64, .str] | .e94 => [.int .i64, .str] | .z => []
def code (n : Nat) : El := match n with | 4 => .e4 | 5 => .e5 | 9 => .e9 | 93 => .e93 | 94 => .e94 | _ => .z
def KK (n : Nat) : Type := (code n).K
def El.toT : (c : El) → c.K → TL KK c.sh | .e4 => fun x => x | .e5 => fun x => x | .e9 => fun x => x | .e93 => fun x => x | .e94 => fun x => x | .z => fun _ => ()
def El.ofT : (c : El) → TL KK c.sh → c.K | .e4 => fun x => x | .e5 => fun x => x | .e9 => fun x => x | .e93 => fun x => x | .e94 => fun x => x | .z => fun _ => ()
theorem El.law (c : El) (t : TL KK c.sh) : c.toT (c.ofT t) = t := by cases c <;> rfl
noncomputable def S : Sig where
  K := KK
  sh := fun n => (code n).sh
  toT := fun n => (code n).toT
  ofT := fun n => (code n).ofT
  law := fun n => (code n).law
  u8 := 5
  ofB := fun s => Ve.ofB s
  toB := fun l => Ve.toB l
def L : List (Nat × Nat × Ann) := [
  (4, 0, { inL := ⟨[(0, .a [.d (.arr 9), .d (.arr 93), .d (.int .i64), .d (.bool)]), (1, .a [.d (.int .i64), .d (.int .i64), .d (.int .i64)])], []⟩, outL := ⟨[(0, .c (.d (.bool)))], []⟩, labels := [] }),
  (6, 0, { inL := ⟨[(0, .a [.d (.arr 9), .d (.arr 93), .d (.int .i64), .d (.bool)]), (1, .c (.d (.int .i64)))], []⟩, outL := ⟨[(0, .c (.d (.int .i64)))], []⟩, labels := [] }),
  (26, 0, { inL := ⟨[(0, .c (.d (.arr 9))), (1, .c (.d (.int .i64)))], []⟩, outL := ⟨[(0, .c (.d (.int .i64)))], []⟩, labels := [(5, ⟨[(0, .c (.d (.arr 9))), (1, .c (.d (.int .i64))), (5, .c (.d (.int .i64)))], []⟩)] }),
  (27, 0, { inL := ⟨[(0, .c (.d (.arr 93))), (1, .c (.d (.int .i64)))], []⟩, outL := ⟨[(0, .c (.d (.int .i64)))], []⟩, labels := [(5, ⟨[(0, .c (.d (.arr 93))), (1, .c (.d (.int .i64))), (5, .c (.d (.int .i64)))], []⟩)] }),
  (64, 0, { inL := ⟨[(0, .a [.d (.int .i64), .d (.str)]), (1, .c (.d (.int .i64)))], []⟩, outL := ⟨[(0, .c (.d (.int .i64)))], []⟩, labels := [] }),
  (8, 0, { inL := ⟨[(0, .a [.d (.arr 9), .d (.arr 93), .d (.int .i64), .d (.bool)])], []⟩, outL := ⟨[(0, .a [.vec 0, .vec 1, .d (.int .i64), .d (.bool)])], [.vec 9, .vec 94]⟩, labels := [] }),
  (32, 0, { inL := ⟨[(0, .c (.d (.arr 9)))], []⟩, outL := ⟨[(0, .c (.vec 0))], [.vec 9]⟩, labels := [(3, ⟨[(0, .c (.d (.arr 9))), (3, .c (.vec 0)), (4, .c (.d (.int .i64)))], [.vec 9]⟩)] }),
  (33, 0, { inL := ⟨[(0, .c (.d (.arr 93)))], []⟩, outL := ⟨[(0, .c (.vec 0))], [.vec 94]⟩, labels := [(3, ⟨[(0, .c (.d (.arr 93))), (3, .c (.vec 0)), (4, .c (.d (.int .i64)))], [.vec 94]⟩)] }),
  (66, 0, { inL := ⟨[(0, .a [.d (.int .i64), .d (.str)])], []⟩, outL := ⟨[(0, .a [.d (.int .i64), .d (.str)])], []⟩, labels := [] }),
  (14, 0, { inL := ⟨[(0, .a [.d (.int .i64), .d (.int .i64), .d (.int .i64)])], []⟩, outL := ⟨[(0, .a [.d (.int .i64), .d (.int .i64), .d (.int .i64)])], []⟩, labels := [] }),
  (13, 0, { inL := ⟨[(0, .a [.d (.arr 9), .d (.arr 94), .d (.int .i64), .d (.bool)]), (1, .a [.d (.int .i64), .d (.int .i64), .d (.int .i64)])], []⟩, outL := ⟨[(0, .a [.vec 0, .vec 1, .d (.int .i64), .d (.bool)]), (1, .c (.d (.int .i64)))], [.vec 9, .vec 94]⟩, labels := [] }),
  (28, 0, { inL := ⟨[(0, .c (.ptr 0 0))], [.var false [.d (.arr 9), .d (.arr 94), .d (.int .i64), .d (.bool)]]⟩, outL := ⟨[(0, .c (.d (.bool)))], [.gone]⟩, labels := [(5, ⟨[(0, .c (.ptr 0 0)), (3, .c (.d (.int .i64))), (4, .c (.d (.int .i64)))], [.var false [.d (.arr 9), .d (.arr 94), .d (.int .i64), .d (.bool)]]⟩), (10, ⟨[(0, .c (.ptr 0 0)), (3, .c (.d (.int .i64))), (5, .c (.d (.int .i64)))], [.var false [.d (.arr 9), .d (.arr 94), .d (.int .i64), .d (.bool)]]⟩)] }),
  (29, 0, { inL := ⟨[(0, .c (.d (.int .i64))), (1, .c (.d (.int .i64))), (2, .c (.d (.int .i64)))], []⟩, outL := ⟨[(0, .c (.d (.bool)))], []⟩, labels := [] }),
  (46, 0, { inL := ⟨[(0, .a [.d (.int .i64), .d (.int .i64), .d (.int .i64)])], []⟩, outL := ⟨[(0, .c (.d (.bool)))], []⟩, labels := [] }),
  (47, 0, { inL := ⟨[(0, .c (.ptr 0 0)), (1, .a [.d (.int .i64), .d (.int .i64), .d (.int .i64)])], [.var false [.d (.arr 9), .d (.arr 94), .d (.int .i64), .d (.bool)]]⟩, outL := ⟨[(0, .a [.vec 1, .vec 2, .d (.int .i64), .d (.bool)])], [.gone, .vec 9, .vec 94]⟩, labels := [] }),
  (78, 0, { inL := ⟨[(0, .a [.d (.int .i64), .d (.int .i64), .d (.int .i64)]), (1, .c (.d (.int .i64)))], []⟩, outL := ⟨[(0, .c (.vec 0))], [.vec 4]⟩, labels := [(3, ⟨[(1, .c (.d (.int .i64))), (2, .c (.ptr 0 0)), (5, .c (.vec 1)), (6, .c (.d (.int .i64)))], [.var true [.d (.int .i64), .d (.int .i64), .d (.int .i64)], .vec 4]⟩)] }),
  (77, 0, { inL := ⟨[(0, .c (.ptr 0 0)), (1, .c (.d (.arr 4))), (2, .c (.d (.int .i64))), (3, .c (.d (.int .i64)))], [.var false [.d (.arr 9), .d (.arr 94), .d (.int .i64), .d (.bool)]]⟩, outL := ⟨[(0, .a [.vec 1, .vec 2, .d (.int .i64), .d (.bool)])], [.gone, .vec 9, .vec 94]⟩, labels := [(3, ⟨[(0, .c (.ptr 0 0)), (1, .c (.d (.arr 4))), (2, .c (.d (.int .i64))), (3, .c (.d (.int .i64))), (8, .c (.ptr 1 0)), (9, .c (.ptr 2 0)), (10, .c (.d (.int .i64)))], [.var false [.d (.arr 9), .d (.arr 94), .d (.int .i64), .d (.bool)], .var true [.vec 3, .vec 4, .d (.int .i64), .d (.bool)], .var true [.vec 5, .vec 6, .d (.int .i64), .d (.bool)], .vec 9, .vec 94, .vec 9, .vec 94]⟩)] }),
  (30, 0, { inL := ⟨[(0, .c (.ptr 0 0))], [.var false [.d (.arr 9), .d (.arr 94), .d (.int .i64), .d (.bool)]]⟩, outL := ⟨[(0, .a [.vec 1, .vec 2, .d (.int .i64), .d (.bool)])], [.gone, .vec 9, .vec 94]⟩, labels := [] }),
  (15, 0, { inL := ⟨[(0, .a [.d (.arr 9), .d (.arr 94), .d (.int .i64), .d (.bool)]), (1, .a [.d (.int .i64), .d (.int .i64), .d (.int .i64)])], []⟩, outL := ⟨[(0, .a [.vec 0, .vec 1, .d (.int .i64), .d (.bool)]), (1, .c (.d (.int .i64)))], [.vec 9, .vec 94]⟩, labels := [] }),
  (34, 0, { inL := ⟨[(0, .a [.d (.arr 9), .d (.arr 94), .d (.int .i64), .d (.bool)])], []⟩, outL := ⟨[(0, .c (.d (.bool)))], []⟩, labels := [] }),
  (67, 0, { inL := ⟨[(0, .c (.d (.int .i64))), (1, .c (.d (.int .i64))), (2, .c (.d (.int .i64)))], []⟩, outL := ⟨[(0, .c (.d (.bool)))], []⟩, labels := [] }),
  (68, 0, { inL := ⟨[(0, .c (.d (.arr 9))), (1, .c (.fn 69 []))], []⟩, outL := ⟨[(0, .c (.d (.bool)))], []⟩, labels := [] }),
  (94, 0, { inL := ⟨[(0, .c (.d (.arr 9))), (1, .c (.fn 69 []))], []⟩, outL := ⟨[(0, .c (.d (.int .i64)))], []⟩, labels := [(2, ⟨[(0, .c (.d (.arr 9))), (1, .c (.fn 69 [])), (7, .c (.d (.int .i64))), (8, .c (.d (.int .i64)))], []⟩)] }),
  (69, 0, { inL := ⟨[(0, .c (.d (.str)))], []⟩, outL := ⟨[(0, .c (.d (.bool)))], []⟩, labels := [] }),
  (35, 0, { inL := ⟨[(0, .c (.d (.str)))], []⟩, outL := ⟨[(0, .c (.d (.bool)))], []⟩, labels := [] }),
  (70, 0, { inL := ⟨[(0, .c (.d (.arr 94))), (1, .c (.fn 71 [(0, 0)]))], [.var false [.d (.arr 9), .d (.arr 94), .d (.int .i64), .d (.bool)]]⟩, outL := ⟨[(0, .c (.d (.bool)))], [.gone]⟩, labels := [] }),
  (95, 0, { inL := ⟨[(0, .c (.d (.arr 94))), (1, .c (.fn 71 [(0, 0)]))], [.var false [.d (.arr 9), .d (.arr 94), .d (.int .i64), .d (.bool)]]⟩, outL := ⟨[(0, .c (.d (.int .i64)))], [.gone]⟩, labels := [(2, ⟨[(0, .c (.d (.arr 94))), (1, .c (.fn 71 [(0, 0)])), (7, .c (.d (.int .i64))), (8, .c (.d (.int .i64)))], [.var false [.d (.arr 9), .d (.arr 94), .d (.int .i64), .d (.bool)]]⟩)] }),
  (71, 0, { inL := ⟨[(0, .a [.d (.int .i64), .d (.str)]), (1, .c (.ptr 0 0))], [.var false [.d (.arr 9), .d (.arr 94), .d (.int .i64), .d (.bool)]]⟩, outL := ⟨[(0, .c (.d (.bool)))], [.gone]⟩, labels := [] }),
  (36, 0, { inL := ⟨[(0, .c (.d (.int .i64))), (1, .c (.d (.int .i64)))], []⟩, outL := ⟨[(0, .c (.d (.bool)))], []⟩, labels := [] }),
  (48, 0, { inL := ⟨[(0, .a [.d (.int .i64), .d (.int .i64), .d (.int .i64)])], []⟩, outL := ⟨[(0, .c (.d (.bool)))], []⟩, labels := [] }),
  (49, 0, { inL := ⟨[(0, .a [.d (.arr 9), .d (.arr 94), .d (.int .i64), .d (.bool)]), (1, .a [.d (.int .i64), .d (.int .i64), .d (.int .i64)])], []⟩, outL := ⟨[(0, .a [.vec 0, .vec 1, .d (.int .i64), .d (.bool)])], [.vec 9, .vec 94]⟩, labels := [] }),
  (80, 0, { inL := ⟨[(0, .a [.d (.int .i64), .d (.int .i64), .d (.int .i64)]), (1, .c (.d (.int .i64)))], []⟩, outL := ⟨[(0, .c (.vec 0))], [.vec 4]⟩, labels := [(3, ⟨[(2, .c (.ptr 0 0)), (5, .c (.vec 1)), (7, .c (.d (.int .i64))), (8, .c (.d (.int .i64)))], [.var true [.d (.int .i64), .d (.int .i64), .d (.int .i64)], .vec 4]⟩)] }),
  (79, 0, { inL := ⟨[(0, .a [.d (.arr 9), .d (.arr 94), .d (.int .i64), .d (.bool)]), (1, .c (.d (.arr 4))), (2, .c (.d (.int .i64))), (3, .c (.d (.int .i64)))], []⟩, outL := ⟨[(0, .a [.vec 0, .vec 1, .d (.int .i64), .d (.bool)])], [.vec 9, .vec 94]⟩, labels := [(3, ⟨[(1, .c (.d (.arr 4))), (2, .c (.d (.int .i64))), (3, .c (.d (.int .i64))), (8, .c (.ptr 0 0)), (9, .c (.ptr 1 0)), (18, .c (.d (.arr 94))), (19, .c (.d (.int .i64))), (20, .c (.d (.int .i64)))], [.var true [.vec 2, .vec 3, .d (.int .i64), .d (.bool)], .var true [.vec 4, .vec 5, .d (.int .i64), .d (.bool)], .vec 9, .vec 94, .vec 9, .vec 94]⟩)] }),
  (72, 0, { inL := ⟨[(0, .c (.d (.arr 9)))], []⟩, outL := ⟨[(0, .c (.vec 0))], [.vec 9]⟩, labels := [] }),
  (10, 0, { inL := ⟨[(0, .a [.d (.arr 9), .d (.arr 94), .d (.int .i64), .d (.bool)]), (1, .a [.d (.arr 9), .d (.arr 94), .d (.int .i64), .d (.bool)])], []⟩, outL := ⟨[(0, .c (.d (.bool)))], []⟩, labels := [] }),
  (40, 0, { inL := ⟨[(0, .c (.d (.arr 9))), (1, .c (.d (.arr 9)))], []⟩, outL := ⟨[(0, .c (.d (.bool)))], []⟩, labels := [(4, ⟨[(0, .c (.d (.arr 9))), (1, .c (.d (.arr 9))), (5, .c (.d (.int .i64)))], []⟩)] }),
  (41, 0, { inL := ⟨[(0, .c (.d (.arr 94))), (1, .c (.d (.arr 94)))], []⟩, outL := ⟨[(0, .c (.d (.bool)))], []⟩, labels := [(4, ⟨[(0, .c (.d (.arr 94))), (1, .c (.d (.arr 94))), (5, .c (.d (.int .i64)))], []⟩)] }),
  (75, 0, { inL := ⟨[(0, .a [.d (.int .i64), .d (.str)]), (1, .a [.d (.int .i64), .d (.str)])], []⟩, outL := ⟨[(0, .c (.d (.bool)))], []⟩, labels := [] }),
  (11, 0, { inL := ⟨[(0, .a [.vec 0, .vec 1, .d (.int .i64), .d (.bool)]), (1, .c (.d (.int .i64)))], [.vec 9, .vec 94]⟩, outL := ⟨[(0, .c (.d (.int .i64)))], [.vec 9, .vec 94]⟩, labels := [] }),
  (42, 0, { inL := ⟨[(0, .c (.vec 0)), (1, .c (.d (.int .i64)))], [.vec 9]⟩, outL := ⟨[(0, .c (.d (.int .i64)))], [.vec 9]⟩, labels := [(2, ⟨[(0, .c (.vec 0)), (1, .c (.d (.int .i64))), (5, .c (.d (.int .i64)))], [.vec 9]⟩)] }),
  (76, 0, { inL := ⟨[(0, .c (.d (.int .i64)))], []⟩, outL := ⟨[(0, .c (.d (.str)))], []⟩, labels := [(4, ⟨[(0, .c (.d (.int .i64))), (3, .c (.d (.str)))], []⟩)] }),
  (43, 0, { inL := ⟨[(0, .c (.vec 0)), (1, .c (.d (.int .i64)))], [.vec 94]⟩, outL := ⟨[(0, .c (.d (.int .i64)))], [.vec 94]⟩, labels := [(2, ⟨[(0, .c (.vec 0)), (1, .c (.d (.int .i64))), (5, .c (.d (.int .i64)))], [.vec 94]⟩)] }),
  (12, 0, { inL := ⟨[(0, .a [.d (.arr 9), .d (.arr 94), .d (.int .i64), .d (.bool)]), (1, .c (.d (.int .i64)))], []⟩, outL := ⟨[(0, .c (.d (.int .i64)))], []⟩, labels := [] }),
  (44, 0, { inL := ⟨[(0, .c (.d (.arr 9))), (1, .c (.d (.int .i64)))], []⟩, outL := ⟨[(0, .c (.d (.int .i64)))], []⟩, labels := [(2, ⟨[(0, .c (.d (.arr 9))), (1, .c (.d (.int .i64))), (5, .c (.d (.int .i64)))], []⟩)] }),
  (45, 0, { inL := ⟨[(0, .c (.d (.arr 94))), (1, .c (.d (.int .i64)))], []⟩, outL := ⟨[(0, .c (.d (.int .i64)))], []⟩, labels := [(2, ⟨[(0, .c (.d (.arr 94))), (1, .c (.d (.int .i64))), (5, .c (.d (.int .i64)))], []⟩)] })]
@[reducible] noncomputable def E : Env := { S := S, tt := tdOf Try.prog, ann := annOf Try.prog L, ext := fun _ _ => none, eqs := fun _ => none }
theorem rows_ok : rowsOk Try.prog L = true := by kernel_rfl
theorem env_ok : EnvOk Try.prog E := envOk_of (by kernel_rfl) rfl rfl rows_ok (fun t ts h => by cases h) (by kernel_rfl) rfl ofB_len
  (fun s i x h => by
    obtain ⟨b, h1, h2⟩ := Ve.ofB_at (x := x) h
    exact ⟨b, h1, by rw [← h2]; rfl⟩)
  (fun l ns h hl => toB_row (fun i x hx => by
    obtain ⟨n, h1, h2⟩ := h i x hx
    have h2' : ([.int .u8 x] : List (Cell S.K)) = [.int .u8 n] := h2
    injection h2' with h2' _
    injection h2' with _ h2'
    rw [h1, h2']) hl)
theorem oks : OrcOk Try.prog E (Sem E) := Sem_ok env_ok (drawn_ok env_ok) (fun f m g h => by cases h)
noncomputable def laws_FnExactCutDisk (aD_Blocks : List ByteArray) (aD_Pending : List (Int × ByteArray)) (aD_Fuse : Int) (aD_Off : Bool) (aC_Mask : Int) (aC_Torn : Int) (aC_Bytes : Int) : Option (Bool) := Sem E ⟨4, 0, none⟩ (aD_Blocks, aD_Pending, aD_Fuse, aD_Off, aC_Mask, aC_Torn, aC_Bytes)
noncomputable def laws_szDisk (a_Blocks : List ByteArray) (a_Pending : List (Int × ByteArray)) (a_Fuse : Int) (a_Off : Bool) (left : Int) : Option (Int) := Sem E ⟨6, 0, none⟩ (a_Blocks, a_Pending, a_Fuse, a_Off, left)
noncomputable def laws_szStringS (a : List ByteArray) (left : Int) : Option (Int) := Sem E ⟨26, 0, none⟩ (a, left)
noncomputable def laws_szStringS_l5 (a : List ByteArray) (left : Int) (i : Int) : Option (Int) := Sem E ⟨26, 0, some 5⟩ (a, left, i)
noncomputable def laws_szPutS (a : List (Int × ByteArray)) (left : Int) : Option (Int) := Sem E ⟨27, 0, none⟩ (a, left)
noncomputable def laws_szPutS_l5 (a : List (Int × ByteArray)) (left : Int) (i : Int) : Option (Int) := Sem E ⟨27, 0, some 5⟩ (a, left, i)
noncomputable def laws_szPut (a_Block : Int) (a_Data : ByteArray) (left : Int) : Option (Int) := Sem E ⟨64, 0, none⟩ (a_Block, a_Data, left)
noncomputable def laws_toDisk (a_Blocks : List ByteArray) (a_Pending : List (Int × ByteArray)) (a_Fuse : Int) (a_Off : Bool) : Option (Int × Bool × List ByteArray × List (Int × ByteArray)) := Sem E ⟨8, 0, none⟩ (a_Blocks, a_Pending, a_Fuse, a_Off)
noncomputable def laws_toStringS (a : List ByteArray) : Option (List ByteArray) := Sem E ⟨32, 0, none⟩ a
noncomputable def laws_toStringS_l3 (a : List ByteArray) (i : Int) (out : List ByteArray) : Option (List ByteArray) := Sem E ⟨32, 0, some 3⟩ (a, i, out)
noncomputable def laws_toPutS (a : List (Int × ByteArray)) : Option (List (Int × ByteArray)) := Sem E ⟨33, 0, none⟩ a
noncomputable def laws_toPutS_l3 (a : List (Int × ByteArray)) (i : Int) (out : List (Int × ByteArray)) : Option (List (Int × ByteArray)) := Sem E ⟨33, 0, some 3⟩ (a, i, out)
noncomputable def laws_toPut (a_Block : Int) (a_Data : ByteArray) : Option (Int × ByteArray) := Sem E ⟨66, 0, none⟩ (a_Block, a_Data)
noncomputable def laws_toCut (a_Mask : Int) (a_Torn : Int) (a_Bytes : Int) : Option (Int × Int × Int) := Sem E ⟨14, 0, none⟩ (a_Mask, a_Torn, a_Bytes)
noncomputable def spec_CutDisk (d_Blocks : List ByteArray) (d_Pending : List (Int × ByteArray)) (d_Fuse : Int) (d_Off : Bool) (c_Mask : Int) (c_Torn : Int) (c_Bytes : Int) : Option (Int × Bool × Int × List ByteArray × List (Int × ByteArray)) := Sem E ⟨13, 0, none⟩ (d_Blocks, d_Pending, d_Fuse, d_Off, c_Mask, c_Torn, c_Bytes)
noncomputable def spec_l09Ok (d_Blocks : List ByteArray) (d_Pending : List (Int × ByteArray)) (d_Fuse : Int) (d_Off : Bool) : Option (Bool) := Sem E ⟨28, 0, none⟩ (d_Blocks, d_Pending, d_Fuse, d_Off)
noncomputable def spec_l09Ok_l5 (n : Int) (i : Int) (d_Blocks : List ByteArray) (d_Pending : List (Int × ByteArray)) (d_Fuse : Int) (d_Off : Bool) : Option (Bool) := Sem E ⟨28, 0, some 5⟩ (n, i, d_Blocks, d_Pending, d_Fuse, d_Off)
noncomputable def spec_l09Ok_l10 (n : Int) (i : Int) (d_Blocks : List ByteArray) (d_Pending : List (Int × ByteArray)) (d_Fuse : Int) (d_Off : Bool) : Option (Bool) := Sem E ⟨28, 0, some 10⟩ (n, i, d_Blocks, d_Pending, d_Fuse, d_Off)
noncomputable def spec_l00In (n : Int) (low : Int) (high : Int) : Option (Bool) := Sem E ⟨29, 0, none⟩ (n, low, high)
noncomputable def spec_ValidCut (c_Mask : Int) (c_Torn : Int) (c_Bytes : Int) : Option (Bool) := Sem E ⟨46, 0, none⟩ (c_Mask, c_Torn, c_Bytes)
noncomputable def spec_l30Cut (c_Mask : Int) (c_Torn : Int) (c_Bytes : Int) (d_Blocks : List ByteArray) (d_Pending : List (Int × ByteArray)) (d_Fuse : Int) (d_Off : Bool) : Option (Int × Bool × List ByteArray × List (Int × ByteArray)) := Sem E ⟨47, 0, none⟩ (c_Mask, c_Torn, c_Bytes, d_Blocks, d_Pending, d_Fuse, d_Off)
noncomputable def spec_l30Kept (c_Mask : Int) (c_Torn : Int) (c_Bytes : Int) (n : Int) : Option (List Bool) := Sem E ⟨78, 0, none⟩ (c_Mask, c_Torn, c_Bytes, n)
noncomputable def spec_l30Kept_l3 (n : Int) (i : Int) (c_Mask : Int) (c_Torn : Int) (c_Bytes : Int) (out : List Bool) : Option (List Bool) := Sem E ⟨78, 0, some 3⟩ (n, i, c_Mask, c_Torn, c_Bytes, out)
noncomputable def spec_l09Cut (kept : List Bool) (torn : Int) (bytes : Int) (d_Blocks : List ByteArray) (d_Pending : List (Int × ByteArray)) (d_Fuse : Int) (d_Off : Bool) : Option (Int × Bool × List ByteArray × List (Int × ByteArray)) := Sem E ⟨77, 0, none⟩ (kept, torn, bytes, d_Blocks, d_Pending, d_Fuse, d_Off)
noncomputable def spec_l09Cut_l3 (kept : List Bool) (torn : Int) (bytes : Int) (i : Int) (d_Blocks : List ByteArray) (d_Pending : List (Int × ByteArray)) (d_Fuse : Int) (d_Off : Bool) (t8_Fuse : Int) (t8_Off : Bool) (out_Fuse : Int) (out_Off : Bool) (t8_Blocks : List ByteArray) (t8_Pending : List (Int × ByteArray)) (out_Blocks : List ByteArray) (out_Pending : List (Int × ByteArray)) : Option (Int × Bool × List ByteArray × List (Int × ByteArray)) := Sem E ⟨77, 0, some 3⟩ (kept, torn, bytes, i, d_Blocks, d_Pending, d_Fuse, d_Off, t8_Fuse, t8_Off, out_Fuse, out_Off, t8_Blocks, t8_Pending, out_Blocks, out_Pending)
noncomputable def spec_l09Own (d_Blocks : List ByteArray) (d_Pending : List (Int × ByteArray)) (d_Fuse : Int) (d_Off : Bool) : Option (Int × Bool × List ByteArray × List (Int × ByteArray)) := Sem E ⟨30, 0, none⟩ (d_Blocks, d_Pending, d_Fuse, d_Off)
noncomputable def impl_CutDisk (d_Blocks : List ByteArray) (d_Pending : List (Int × ByteArray)) (d_Fuse : Int) (d_Off : Bool) (c_Mask : Int) (c_Torn : Int) (c_Bytes : Int) : Option (Int × Bool × Int × List ByteArray × List (Int × ByteArray)) := Sem E ⟨15, 0, none⟩ (d_Blocks, d_Pending, d_Fuse, d_Off, c_Mask, c_Torn, c_Bytes)
noncomputable def impl_ValidDisk (d_Blocks : List ByteArray) (d_Pending : List (Int × ByteArray)) (d_Fuse : Int) (d_Off : Bool) : Option (Bool) := Sem E ⟨34, 0, none⟩ (d_Blocks, d_Pending, d_Fuse, d_Off)
noncomputable def impl_within (n : Int) (low : Int) (high : Int) : Option (Bool) := Sem E ⟨67, 0, none⟩ (n, low, high)
noncomputable def slices_ContainsFunc_sstring_string_d_ValidDisk_1 (s : List ByteArray) : Option (Bool) := Sem E ⟨68, 0, none⟩ s
noncomputable def slices_IndexFunc_sstring_string_d_ValidDisk_1 (s : List ByteArray) : Option (Int) := Sem E ⟨94, 0, none⟩ s
noncomputable def slices_IndexFunc_sstring_string_d_ValidDisk_1_l2 (s : List ByteArray) (t7 : Int) (t8 : Int) : Option (Int) := Sem E ⟨94, 0, some 2⟩ (s, t7, t8)
noncomputable def impl_ValidDisk_1 (b : ByteArray) : Option (Bool) := Sem E ⟨69, 0, none⟩ b
noncomputable def impl_isBlock (s : ByteArray) : Option (Bool) := Sem E ⟨35, 0, none⟩ s
noncomputable def slices_ContainsFunc_simpl_Put_impl_Put_d_ValidDisk_2 (s : List (Int × ByteArray)) (c0_Blocks : List ByteArray) (c0_Pending : List (Int × ByteArray)) (c0_Fuse : Int) (c0_Off : Bool) : Option (Bool) := Sem E ⟨70, 0, none⟩ (s, c0_Blocks, c0_Pending, c0_Fuse, c0_Off)
noncomputable def slices_IndexFunc_simpl_Put_impl_Put_d_ValidDisk_2 (s : List (Int × ByteArray)) (c0_Blocks : List ByteArray) (c0_Pending : List (Int × ByteArray)) (c0_Fuse : Int) (c0_Off : Bool) : Option (Int) := Sem E ⟨95, 0, none⟩ (s, c0_Blocks, c0_Pending, c0_Fuse, c0_Off)
noncomputable def slices_IndexFunc_simpl_Put_impl_Put_d_ValidDisk_2_l2 (s : List (Int × ByteArray)) (t7 : Int) (t8 : Int) (c0_Blocks : List ByteArray) (c0_Pending : List (Int × ByteArray)) (c0_Fuse : Int) (c0_Off : Bool) : Option (Int) := Sem E ⟨95, 0, some 2⟩ (s, t7, t8, c0_Blocks, c0_Pending, c0_Fuse, c0_Off)
noncomputable def impl_ValidDisk_2 (p_Block : Int) (p_Data : ByteArray) (t1_Blocks : List ByteArray) (t1_Pending : List (Int × ByteArray)) (t1_Fuse : Int) (t1_Off : Bool) : Option (Bool) := Sem E ⟨71, 0, none⟩ (p_Block, p_Data, t1_Blocks, t1_Pending, t1_Fuse, t1_Off)
noncomputable def impl_isIndex (i : Int) (many : Int) : Option (Bool) := Sem E ⟨36, 0, none⟩ (i, many)
noncomputable def impl_ValidCut (c_Mask : Int) (c_Torn : Int) (c_Bytes : Int) : Option (Bool) := Sem E ⟨48, 0, none⟩ (c_Mask, c_Torn, c_Bytes)
noncomputable def impl_Disk_cut (d_Blocks : List ByteArray) (d_Pending : List (Int × ByteArray)) (d_Fuse : Int) (d_Off : Bool) (c_Mask : Int) (c_Torn : Int) (c_Bytes : Int) : Option (Int × Bool × List ByteArray × List (Int × ByteArray)) := Sem E ⟨49, 0, none⟩ (d_Blocks, d_Pending, d_Fuse, d_Off, c_Mask, c_Torn, c_Bytes)
noncomputable def impl_Cut_kept (c_Mask : Int) (c_Torn : Int) (c_Bytes : Int) (n : Int) : Option (List Bool) := Sem E ⟨80, 0, none⟩ (c_Mask, c_Torn, c_Bytes, n)
noncomputable def impl_Cut_kept_l3 (t7 : Int) (t8 : Int) (c_Mask : Int) (c_Torn : Int) (c_Bytes : Int) (out : List Bool) : Option (List Bool) := Sem E ⟨80, 0, some 3⟩ (t7, t8, c_Mask, c_Torn, c_Bytes, out)
noncomputable def impl_Disk_afterCut (d_Blocks : List ByteArray) (d_Pending : List (Int × ByteArray)) (d_Fuse : Int) (d_Off : Bool) (kept : List Bool) (torn : Int) (bytes : Int) : Option (Int × Bool × List ByteArray × List (Int × ByteArray)) := Sem E ⟨79, 0, none⟩ (d_Blocks, d_Pending, d_Fuse, d_Off, kept, torn, bytes)
noncomputable def impl_Disk_afterCut_l3 (kept : List Bool) (torn : Int) (bytes : Int) (t18 : List (Int × ByteArray)) (t19 : Int) (t20 : Int) (t8_Fuse : Int) (t8_Off : Bool) (out_Fuse : Int) (out_Off : Bool) (t8_Blocks : List ByteArray) (t8_Pending : List (Int × ByteArray)) (out_Blocks : List ByteArray) (out_Pending : List (Int × ByteArray)) : Option (Int × Bool × List ByteArray × List (Int × ByteArray)) := Sem E ⟨79, 0, some 3⟩ (kept, torn, bytes, t18, t19, t20, t8_Fuse, t8_Off, out_Fuse, out_Off, t8_Blocks, t8_Pending, out_Blocks, out_Pending)
noncomputable def slices_Clone_sstring_string (s : List ByteArray) : Option (List ByteArray) := Sem E ⟨72, 0, none⟩ s
noncomputable def laws_eqDisk (a_Blocks : List ByteArray) (a_Pending : List (Int × ByteArray)) (a_Fuse : Int) (a_Off : Bool) (b_Blocks : List ByteArray) (b_Pending : List (Int × ByteArray)) (b_Fuse : Int) (b_Off : Bool) : Option (Bool) := Sem E ⟨10, 0, none⟩ (a_Blocks, a_Pending, a_Fuse, a_Off, b_Blocks, b_Pending, b_Fuse, b_Off)
noncomputable def laws_eqStringS (a : List ByteArray) (b : List ByteArray) : Option (Bool) := Sem E ⟨40, 0, none⟩ (a, b)
noncomputable def laws_eqStringS_l4 (a : List ByteArray) (b : List ByteArray) (i : Int) : Option (Bool) := Sem E ⟨40, 0, some 4⟩ (a, b, i)
noncomputable def laws_eqPutS (a : List (Int × ByteArray)) (b : List (Int × ByteArray)) : Option (Bool) := Sem E ⟨41, 0, none⟩ (a, b)
noncomputable def laws_eqPutS_l4 (a : List (Int × ByteArray)) (b : List (Int × ByteArray)) (i : Int) : Option (Bool) := Sem E ⟨41, 0, some 4⟩ (a, b, i)
noncomputable def laws_eqPut (a_Block : Int) (a_Data : ByteArray) (b_Block : Int) (b_Data : ByteArray) : Option (Bool) := Sem E ⟨75, 0, none⟩ (a_Block, a_Data, b_Block, b_Data)
noncomputable def laws_markDisk_vv (a_Fuse : Int) (a_Off : Bool) (k : Int) (a_Blocks : List ByteArray) (a_Pending : List (Int × ByteArray)) : Option (Int × List ByteArray × List (Int × ByteArray)) := Sem E ⟨11, 0, none⟩ (a_Fuse, a_Off, k, a_Blocks, a_Pending)
noncomputable def laws_markStringS_v (k : Int) (a : List ByteArray) : Option (Int × List ByteArray) := Sem E ⟨42, 0, none⟩ (k, a)
noncomputable def laws_markStringS_v_l2 (k : Int) (i : Int) (a : List ByteArray) : Option (Int × List ByteArray) := Sem E ⟨42, 0, some 2⟩ (k, i, a)
noncomputable def laws_markText (k : Int) : Option (ByteArray) := Sem E ⟨76, 0, none⟩ k
noncomputable def laws_markText_l4 (k : Int) (out : ByteArray) : Option (ByteArray) := Sem E ⟨76, 0, some 4⟩ (k, out)
noncomputable def laws_markPutS_v (k : Int) (a : List (Int × ByteArray)) : Option (Int × List (Int × ByteArray)) := Sem E ⟨43, 0, none⟩ (k, a)
noncomputable def laws_markPutS_v_l2 (k : Int) (i : Int) (a : List (Int × ByteArray)) : Option (Int × List (Int × ByteArray)) := Sem E ⟨43, 0, some 2⟩ (k, i, a)
noncomputable def laws_heldDisk (a_Blocks : List ByteArray) (a_Pending : List (Int × ByteArray)) (a_Fuse : Int) (a_Off : Bool) (k : Int) : Option (Int) := Sem E ⟨12, 0, none⟩ (a_Blocks, a_Pending, a_Fuse, a_Off, k)
noncomputable def laws_heldStringS (a : List ByteArray) (k : Int) : Option (Int) := Sem E ⟨44, 0, none⟩ (a, k)
noncomputable def laws_heldStringS_l2 (a : List ByteArray) (k : Int) (i : Int) : Option (Int) := Sem E ⟨44, 0, some 2⟩ (a, k, i)
noncomputable def laws_heldPutS (a : List (Int × ByteArray)) (k : Int) : Option (Int) := Sem E ⟨45, 0, none⟩ (a, k)
noncomputable def laws_heldPutS_l2 (a : List (Int × ByteArray)) (k : Int) (i : Int) : Option (Int) := Sem E ⟨45, 0, some 2⟩ (a, k, i)
end Go.Ve.X
