/- The environment of 'FnExactDecodeNode' for the evaluator: kinds of elements, layouts of the functions that it reaches (printed by plan.py). No condition. -/
import Derived.Test.YtkfcmjdooldonaaVeC
import Derived.Test.YtkfcmjdooldonaaLayFnExactDecodeNode
import Derived.Test.YtkfcmjdooldonaaProg
namespace Go.Ve.X
open Go.Proofs Go.Ve Go.RowKit
set_option linter.unusedVariables false
set_option maxRecDepth 100000
inductive El | e2 | e5 | e119 | z
def El.K : El → Type | .e2 => Int | .e5 => Int | .e119 => Int × Int × Int × Int | .z => Unit
def El.sh : El → List TS | .e2 => [.int .i64] | .e5 => [.int .u8] | .e119 => [.int .i64, .int .i64, .int .i64, .int .i64] | .z => []
def code (n : Nat) : El := match n with | 2 => .e2 | 5 => .e5 | 119 => .e119 | _ => .z
def KK (n : Nat) : Type := (code n).K
def El.toT : (c : El) → c.K → TL KK c.sh | .e2 => fun x => x | .e5 => fun x => x | .e119 => fun x => x | .z => fun _ => ()
def El.ofT : (c : El) → TL KK c.sh → c.K | .e2 => fun x => x | .e5 => fun x => x | .e119 => fun x => x | .z => fun _ => ()
theorem El.law (c : El) (t : TL KK c.sh) : c.toT (c.ofT t) = t := by cases c <;> rfl
noncomputable def S : Sig where
  K := KK
  sh := fun n => (code n).sh
  toT := fun n => (code n).toT
  ofT := fun n => (code n).ofT
  law := fun n => (code n).law
  u8 := 5
  bt := some 127
  ofB := fun s => Ve.ofB s
  toB := fun l => Ve.toB l
def L : List (Nat × Nat × Ann) := [
  (8, 0, { inL := ⟨[(0, .c (.d (.str)))], []⟩, outL := ⟨[(0, .c (.d (.bool)))], []⟩, labels := [] }),
  (39, 0, { inL := ⟨[(0, .c (.d (.str)))], []⟩, outL := ⟨[(0, .a [.d (.bool), .vec 0, .vec 1, .vec 2]), (1, .c (.d (.bool)))], [.vec 119, .vec 2, .vec 2]⟩, labels := [] }),
  (95, 0, { inL := ⟨[(0, .c (.d (.str)))], []⟩, outL := ⟨[(0, .a [.d (.bool), .vec 0, .vec 1, .vec 2]), (1, .c (.d (.bool)))], [.vec 119, .vec 2, .vec 2]⟩, labels := [(8, ⟨[(0, .c (.d (.str))), (2, .c (.ptr 0 0)), (4, .c (.d (.int .i64))), (5, .c (.ptr 1 0)), (6, .c (.d (.int .i64)))], [.var true [.d (.bool), .vec 2, .vec 3, .vec 4], .var true [.d (.bool), .vec 5, .vec 6, .vec 7], .vec 119, .vec 2, .vec 2, .vec 119, .vec 2, .vec 2]⟩), (13, ⟨[(0, .c (.d (.str))), (2, .c (.ptr 0 0)), (4, .c (.d (.int .i64))), (5, .c (.ptr 1 0)), (8, .c (.d (.int .i64)))], [.var true [.d (.bool), .vec 2, .vec 3, .vec 4], .var true [.d (.bool), .vec 5, .vec 6, .vec 7], .vec 119, .vec 2, .vec 2, .vec 119, .vec 2, .vec 2]⟩)] }),
  (53, 0, { inL := ⟨[(0, .c (.d (.int .i64))), (1, .c (.d (.int .i64))), (2, .c (.d (.int .i64)))], []⟩, outL := ⟨[(0, .c (.d (.bool)))], []⟩, labels := [] }),
  (144, 0, { inL := ⟨[(0, .c (.d (.str))), (1, .c (.d (.int .i64))), (2, .c (.d (.int .i64)))], []⟩, outL := ⟨[(0, .c (.d (.int .i64)))], []⟩, labels := [] }),
  (162, 0, { inL := ⟨[(0, .c (.d (.str))), (1, .c (.d (.int .i64))), (2, .c (.d (.int .i64)))], []⟩, outL := ⟨[(0, .c (.d (.int .i64))), (1, .c (.d (.bool)))], []⟩, labels := [(5, ⟨[(0, .c (.d (.str))), (1, .c (.d (.int .i64))), (8, .c (.d (.int .i64))), (9, .c (.d (.int .i64)))], []⟩)] }),
  (166, 0, { inL := ⟨[(0, .c (.d (.str))), (1, .c (.d (.int .i64))), (2, .c (.d (.int .i64)))], []⟩, outL := ⟨[(0, .c (.d (.bool)))], []⟩, labels := [] }),
  (88, 0, { inL := ⟨[(0, .a [.d (.bool), .d (.arr 119), .d (.arr 2), .d (.arr 2)])], []⟩, outL := ⟨[(0, .c (.d (.bool)))], []⟩, labels := [(3, ⟨[(1, .c (.ptr 0 0)), (3, .c (.d (.int .i64)))], [.var true [.d (.bool), .d (.arr 119), .d (.arr 2), .d (.arr 2)]]⟩), (11, ⟨[(1, .c (.ptr 0 0)), (4, .c (.d (.int .i64)))], [.var true [.d (.bool), .d (.arr 119), .d (.arr 2), .d (.arr 2)]]⟩)] }),
  (135, 0, { inL := ⟨[(0, .c (.d (.arr 2))), (1, .c (.d (.int .i64))), (2, .c (.d (.int .i64)))], []⟩, outL := ⟨[(0, .c (.d (.bool)))], []⟩, labels := [(2, ⟨[(0, .c (.d (.arr 2))), (1, .c (.d (.int .i64))), (2, .c (.d (.int .i64))), (7, .c (.d (.int .i64)))], []⟩)] }),
  (134, 0, { inL := ⟨[(0, .a [.d (.int .i64), .d (.int .i64), .d (.int .i64), .d (.int .i64)])], []⟩, outL := ⟨[(0, .c (.d (.bool)))], []⟩, labels := [] }),
  (92, 0, { inL := ⟨[(0, .a [.d (.bool), .d (.arr 119), .d (.arr 2), .d (.arr 2)])], []⟩, outL := ⟨[(0, .c (.d (.str)))], []⟩, labels := [(5, ⟨[(1, .c (.ptr 0 0)), (3, .c (.d (.str))), (4, .c (.d (.int .i64)))], [.var true [.d (.bool), .d (.arr 119), .d (.arr 2), .d (.arr 2)]]⟩), (12, ⟨[(1, .c (.ptr 0 0)), (3, .c (.d (.str))), (6, .c (.d (.int .i64)))], [.var true [.d (.bool), .d (.arr 119), .d (.arr 2), .d (.arr 2)]]⟩), (16, ⟨[(1, .c (.ptr 0 0)), (3, .c (.d (.str))), (7, .c (.d (.int .i64)))], [.var true [.d (.bool), .d (.arr 119), .d (.arr 2), .d (.arr 2)]]⟩)] }),
  (143, 0, { inL := ⟨[(0, .c (.d (.int .i64))), (1, .c (.d (.int .i64)))], []⟩, outL := ⟨[(0, .c (.d (.str)))], []⟩, labels := [(3, ⟨[(0, .c (.d (.int .i64))), (1, .c (.d (.int .i64))), (5, .c (.vec 0)), (6, .c (.d (.int .i64)))], [.vec 5]⟩)] }),
  (116, 0, { inL := ⟨[(0, .c (.d (.str))), (1, .c (.d (.int .i64)))], []⟩, outL := ⟨[(0, .c (.d (.str)))], []⟩, labels := [] }),
  (34, 0, { inL := ⟨[(0, .c (.d (.str)))], []⟩, outL := ⟨[(0, .a [.d (.bool), .vec 0, .vec 1, .vec 2]), (1, .c (.d (.bool)))], [.vec 119, .vec 2, .vec 2]⟩, labels := [(8, ⟨[(0, .c (.d (.str))), (2, .c (.ptr 0 0)), (4, .c (.ptr 1 0)), (6, .c (.d (.int .i64))), (7, .c (.ptr 2 0)), (8, .c (.d (.int .i64)))], [.var true [.d (.bool), .vec 3, .vec 4, .vec 5], .var true [.d (.str), .d (.bool)], .var true [.d (.bool), .vec 6, .vec 7, .vec 8], .vec 119, .vec 2, .vec 2, .vec 119, .vec 2, .vec 2]⟩)] }),
  (68, 0, { inL := ⟨[(0, .c (.d (.str)))], []⟩, outL := ⟨[(0, .c (.d (.bool)))], []⟩, labels := [] }),
  (46, 0, { inL := ⟨[(0, .c (.ptr 0 0))], [.var true [.d (.str), .d (.bool)]]⟩, outL := ⟨[(0, .c (.d (.int .i64)))], [.var true [.d (.str), .d (.bool)]]⟩, labels := [] }),
  (48, 0, { inL := ⟨[(0, .c (.ptr 0 0)), (1, .c (.d (.int .i64)))], [.var true [.d (.str), .d (.bool)]]⟩, outL := ⟨[(0, .c (.d (.int .i64)))], [.var true [.d (.str), .d (.bool)]]⟩, labels := [] }),
  (47, 0, { inL := ⟨[(0, .c (.ptr 0 0)), (1, .c (.d (.int .i64)))], [.var true [.d (.str), .d (.bool)]]⟩, outL := ⟨[(0, .c (.d (.str)))], [.var true [.d (.str), .d (.bool)]]⟩, labels := [] }),
  (104, 0, { inL := ⟨[(0, .c (.d (.str))), (1, .c (.d (.int .i64))), (2, .c (.d (.int .i64)))], []⟩, outL := ⟨[(0, .c (.d (.str))), (1, .c (.d (.bool)))], []⟩, labels := [] }),
  (49, 0, { inL := ⟨[(0, .c (.d (.int .i64))), (1, .c (.d (.int .i64))), (2, .c (.d (.int .i64)))], []⟩, outL := ⟨[(0, .c (.d (.bool)))], []⟩, labels := [] }),
  (105, 0, { inL := ⟨[(0, .c (.d (.str)))], []⟩, outL := ⟨[(0, .c (.d (.int .u64)))], []⟩, labels := [(3, ⟨[(0, .c (.d (.str))), (3, .c (.d (.int .u64))), (6, .c (.d (.int .i64))), (7, .c (.d (.int .i64)))], []⟩)] }),
  (89, 0, { inL := ⟨[(0, .c (.ptr 0 0)), (1, .c (.d (.int .i64)))], [.var true [.d (.str), .d (.bool)]]⟩, outL := ⟨[(0, .c (.vec 1))], [.var true [.d (.str), .d (.bool)], .vec 2]⟩, labels := [(3, ⟨[(0, .c (.ptr 0 0)), (5, .c (.vec 1)), (6, .c (.d (.int .i64))), (7, .c (.d (.int .i64)))], [.var true [.d (.str), .d (.bool)], .vec 2]⟩)] }),
  (90, 0, { inL := ⟨[(0, .a [.d (.bool), .d (.arr 119), .d (.arr 2), .d (.arr 2)])], []⟩, outL := ⟨[(0, .c (.d (.bool)))], []⟩, labels := [] }),
  (137, 0, { inL := ⟨[(0, .c (.d (.arr 119)))], []⟩, outL := ⟨[(0, .c (.vec 0))], [.vec 2]⟩, labels := [(3, ⟨[(3, .c (.vec 0)), (6, .c (.d (.arr 119))), (7, .c (.d (.int .i64))), (8, .c (.d (.int .i64)))], [.vec 2]⟩)] }),
  (136, 0, { inL := ⟨[(0, .c (.d (.arr 2)))], []⟩, outL := ⟨[(0, .c (.d (.bool)))], []⟩, labels := [(2, ⟨[(0, .c (.d (.arr 2))), (3, .c (.d (.int .i64)))], []⟩)] }),
  (138, 0, { inL := ⟨[(0, .c (.d (.arr 119))), (1, .c (.fn 139 []))], []⟩, outL := ⟨[(0, .c (.d (.bool)))], []⟩, labels := [] }),
  (160, 0, { inL := ⟨[(0, .c (.d (.arr 119))), (1, .c (.fn 139 []))], []⟩, outL := ⟨[(0, .c (.d (.int .i64)))], []⟩, labels := [(2, ⟨[(0, .c (.d (.arr 119))), (1, .c (.fn 139 [])), (7, .c (.d (.int .i64))), (8, .c (.d (.int .i64)))], []⟩)] }),
  (139, 0, { inL := ⟨[(0, .a [.d (.int .i64), .d (.int .i64), .d (.int .i64), .d (.int .i64)])], []⟩, outL := ⟨[(0, .c (.d (.bool)))], []⟩, labels := [] }),
  (140, 0, { inL := ⟨[(0, .a [.d (.int .i64), .d (.int .i64), .d (.int .i64), .d (.int .i64)])], []⟩, outL := ⟨[(0, .c (.d (.bool)))], []⟩, labels := [] }),
  (80, 0, { inL := ⟨[(0, .c (.d (.arr 2))), (1, .c (.d (.int .i64))), (2, .c (.d (.int .i64)))], []⟩, outL := ⟨[(0, .c (.d (.bool)))], []⟩, labels := [] }),
  (129, 0, { inL := ⟨[(0, .c (.d (.arr 2))), (1, .c (.fn 130 [(0, 0), (1, 0)]))], [.var false [.d (.int .i64)], .var false [.d (.int .i64)]]⟩, outL := ⟨[(0, .c (.d (.bool)))], [.gone, .gone]⟩, labels := [] }),
  (159, 0, { inL := ⟨[(0, .c (.d (.arr 2))), (1, .c (.fn 130 [(0, 0), (1, 0)]))], [.var false [.d (.int .i64)], .var false [.d (.int .i64)]]⟩, outL := ⟨[(0, .c (.d (.int .i64)))], [.gone, .gone]⟩, labels := [(2, ⟨[(0, .c (.d (.arr 2))), (1, .c (.fn 130 [(0, 0), (1, 0)])), (7, .c (.d (.int .i64))), (8, .c (.d (.int .i64)))], [.var false [.d (.int .i64)], .var false [.d (.int .i64)]]⟩)] }),
  (130, 0, { inL := ⟨[(0, .c (.d (.int .i64))), (1, .c (.ptr 0 0)), (2, .c (.ptr 1 0))], [.var false [.d (.int .i64)], .var false [.d (.int .i64)]]⟩, outL := ⟨[(0, .c (.d (.bool)))], [.gone, .gone]⟩, labels := [] }),
  (91, 0, { inL := ⟨[(0, .a [.d (.bool), .d (.arr 119), .d (.arr 2), .d (.arr 2)])], []⟩, outL := ⟨[(0, .c (.d (.str)))], []⟩, labels := [(5, ⟨[(3, .c (.d (.str))), (31, .c (.d (.arr 119))), (32, .c (.d (.int .i64))), (33, .c (.d (.int .i64)))], []⟩)] }),
  (102, 0, { inL := ⟨[(0, .c (.d (.int .i64))), (1, .c (.d (.int .i64)))], []⟩, outL := ⟨[(0, .c (.d (.str)))], []⟩, labels := [(3, ⟨[(0, .c (.d (.int .i64))), (5, .c (.vec 0)), (10, .c (.d (.int .i64))), (11, .c (.d (.int .i64)))], [.vec 5]⟩)] }),
  (142, 0, { inL := ⟨[(0, .c (.d (.arr 2)))], []⟩, outL := ⟨[(0, .c (.d (.str)))], []⟩, labels := [(3, ⟨[(3, .c (.ptr 0 0)), (6, .c (.d (.arr 2))), (7, .c (.d (.int .i64))), (8, .c (.d (.int .i64)))], [.var true [.self 0, .vec 1], .vec 5]⟩)] }),
  (100, 0, { inL := ⟨[(0, .c (.ptr 0 0)), (1, .c (.d (.str)))], [.var true [.self 0, .vec 1], .vec 5]⟩, outL := ⟨[(0, .c (.d (.int .i64))), (1, .c (.any))], [.var true [.self 0, .vec 2], .gone, .vec 5]⟩, labels := [] }),
  (146, 0, { inL := ⟨[(0, .c (.ptr 0 0))], [.var true [.self 0]]⟩, outL := ⟨[], [.var true [.self 0]]⟩, labels := [] }),
  (103, 0, { inL := ⟨[(0, .c (.ptr 0 0))], [.var true [.self 0, .vec 1], .vec 5]⟩, outL := ⟨[(0, .c (.d (.str)))], [.var true [.self 0, .any], .gone]⟩, labels := [] }),
  (141, 0, { inL := ⟨[(0, .c (.d (.str))), (1, .c (.d (.int .i64)))], []⟩, outL := ⟨[(0, .c (.d (.str)))], []⟩, labels := [] }),
  (161, 0, { inL := ⟨[(0, .c (.d (.int .i64)))], []⟩, outL := ⟨[(0, .c (.d (.str)))], []⟩, labels := [] }),
  (165, 0, { inL := ⟨[(0, .c (.d (.str))), (1, .c (.d (.int .i64)))], []⟩, outL := ⟨[(0, .c (.d (.str)))], []⟩, labels := [] }),
  (40, 0, { inL := ⟨[(0, .a [.d (.bool), .d (.arr 119), .d (.arr 2), .d (.arr 2)]), (1, .a [.d (.bool), .d (.arr 119), .d (.arr 2), .d (.arr 2)])], []⟩, outL := ⟨[(0, .c (.d (.bool)))], []⟩, labels := [] }),
  (96, 0, { inL := ⟨[(0, .c (.d (.arr 119))), (1, .c (.d (.arr 119)))], []⟩, outL := ⟨[(0, .c (.d (.bool)))], []⟩, labels := [(4, ⟨[(0, .c (.d (.arr 119))), (1, .c (.d (.arr 119))), (5, .c (.d (.int .i64)))], []⟩)] }),
  (145, 0, { inL := ⟨[(0, .a [.d (.int .i64), .d (.int .i64), .d (.int .i64), .d (.int .i64)]), (1, .a [.d (.int .i64), .d (.int .i64), .d (.int .i64), .d (.int .i64)])], []⟩, outL := ⟨[(0, .c (.d (.bool)))], []⟩, labels := [] }),
  (28, 0, { inL := ⟨[(0, .c (.d (.arr 2))), (1, .c (.d (.arr 2)))], []⟩, outL := ⟨[(0, .c (.d (.bool)))], []⟩, labels := [(4, ⟨[(0, .c (.d (.arr 2))), (1, .c (.d (.arr 2))), (5, .c (.d (.int .i64)))], []⟩)] }),
  (41, 0, { inL := ⟨[(0, .a [.d (.bool), .vec 0, .vec 1, .vec 2]), (1, .c (.d (.int .i64)))], [.vec 119, .vec 2, .vec 2]⟩, outL := ⟨[(0, .c (.d (.int .i64)))], [.vec 119, .vec 2, .vec 2]⟩, labels := [] }),
  (97, 0, { inL := ⟨[(0, .c (.vec 0)), (1, .c (.d (.int .i64)))], [.vec 119]⟩, outL := ⟨[(0, .c (.d (.int .i64)))], [.vec 119]⟩, labels := [(2, ⟨[(0, .c (.vec 0)), (1, .c (.d (.int .i64))), (5, .c (.d (.int .i64)))], [.vec 119]⟩)] }),
  (30, 0, { inL := ⟨[(0, .c (.vec 0)), (1, .c (.d (.int .i64)))], [.vec 2]⟩, outL := ⟨[(0, .c (.d (.int .i64)))], [.vec 2]⟩, labels := [(2, ⟨[(0, .c (.vec 0)), (1, .c (.d (.int .i64))), (5, .c (.d (.int .i64)))], [.vec 2]⟩)] }),
  (42, 0, { inL := ⟨[(0, .a [.d (.bool), .d (.arr 119), .d (.arr 2), .d (.arr 2)]), (1, .c (.d (.int .i64)))], []⟩, outL := ⟨[(0, .c (.d (.int .i64)))], []⟩, labels := [] }),
  (98, 0, { inL := ⟨[(0, .c (.d (.arr 119))), (1, .c (.d (.int .i64)))], []⟩, outL := ⟨[(0, .c (.d (.int .i64)))], []⟩, labels := [(2, ⟨[(0, .c (.d (.arr 119))), (1, .c (.d (.int .i64))), (5, .c (.d (.int .i64)))], []⟩)] }),
  (85, 0, { inL := ⟨[(0, .c (.d (.arr 2))), (1, .c (.d (.int .i64)))], []⟩, outL := ⟨[(0, .c (.d (.int .i64)))], []⟩, labels := [(2, ⟨[(0, .c (.d (.arr 2))), (1, .c (.d (.int .i64))), (5, .c (.d (.int .i64)))], []⟩)] })]
noncomputable def X : List (ExtRow S (annOf Try.prog L)) := [⟨146, 0, fun _ => some ()⟩, ⟨103, 0, fun d => textB (d)⟩, ⟨165, 0, fun d => repeatB (d.1) (d.2)⟩]
@[reducible] noncomputable def E : Env := { S := S, tt := tdOf Try.prog, ann := annOf Try.prog L, ext := extAt S (annOf Try.prog L) X, eqs := fun t => get ([] : List (Nat × List TS)) t }
theorem rows_ok : rowsOk Try.prog L = true := by kernel_rfl
theorem env_ok : EnvOk Try.prog E := envOk_of (by kernel_rfl) rfl rfl rows_ok (eqs_nil) (by kernel_rfl) rfl ofB_len
  (fun s i x h => by
    obtain ⟨b, h1, h2⟩ := Ve.ofB_at (x := x) h
    exact ⟨b, h1, by rw [← h2]; rfl⟩)
  (fun l ns h hl => toB_row (fun i x hx => by
    obtain ⟨n, h1, h2⟩ := h i x hx
    have h2' : ([.int .u8 x] : List (Cell S.K)) = [.int .u8 n] := h2
    injection h2' with h2' _
    injection h2' with _ h2'
    rw [h1, h2']) hl)
theorem ext146_ok : ∀ (d : TL E.S.K (jobT E.ann ⟨146, 0, none⟩)) r, (fun d : Unit => (some () : Option (Unit))) d = some r → CallOk Try.prog E 146 0 d r := by
  intro (d : Unit) (r : Unit) h
  exact bt_check_ok env_ok rfl Try.h240 Try.h240_x rfl (fun h => by cases h) rfl rfl rfl rfl
theorem ext103_ok : ∀ (d : TL E.S.K (jobT E.ann ⟨103, 0, none⟩)) r, (fun d : List Int => (textB d : Option (ByteArray))) d = some r → CallOk Try.prog E 103 0 d r := by
  intro (d : List Int) (r : ByteArray) h
  exact (by
    obtain ⟨hb, hr⟩ := textB_some h
    subst hr
    exact bt_string_ok env_ok rfl rfl Try.lays169 Try.Builder_Extra_169 rfl (fun h => by cases h) rfl rfl (l := d) rfl rfl hb)
theorem ext165_ok : ∀ (d : TL E.S.K (jobT E.ann ⟨165, 0, none⟩)) r, (fun d : ByteArray × Int => (repeatB (d.1) (d.2) : Option (ByteArray))) d = some r → CallOk Try.prog E 165 0 d r := by
  intro (d : ByteArray × Int) (r : ByteArray) h
  refine flat_ok rfl (fun h => by cases h) (xs := [(0, .c (.str (d.1))), (1, .c (.int .i64 (d.2)))]) (res := [(0, .c (.str r))]) rfl rfl (fun Fz w vs hz hs => ?_)
  have h90 := crep_str (hs 0 _ rfl)
  have h91 := crep_int (hs 1 _ rfl)
  rw [arr2 hz h90 h91]
  obtain ⟨h1, h2, hr, h3⟩ := repeatB_some h
  rw [h1]
  exact (Try.strings_Repeat (d.1) _ w h3 h2).mono (by rintro e w' ⟨rfl, hb⟩; exact ⟨_, rfl, hb, by rw [← hr]; exact .str _⟩)
theorem exts_ok : RowsOk Try.prog E X := ⟨ext146_ok, ext103_ok, ext165_ok, trivial⟩
theorem oks : OrcOk Try.prog E (Sem E) := Sem_ok env_ok (drawn_ok env_ok) (extOk_of rfl exts_ok)
noncomputable def laws_FnExactDecodeNode (aBlock : ByteArray) : Option (Bool) := Sem E ⟨8, 0, none⟩ aBlock
noncomputable def spec_DecodeNode (block : ByteArray) : Option (Bool × Bool × List (Int × Int × Int × Int) × List Int × List Int) := Sem E ⟨39, 0, none⟩ block
noncomputable def spec_l15Decode (block : ByteArray) : Option (Bool × Bool × List (Int × Int × Int × Int) × List Int × List Int) := Sem E ⟨95, 0, none⟩ block
noncomputable def spec_l15Decode_l8 (block : ByteArray) (count : Int) (i : Int) (t2_Leaf : Bool) (n_Leaf : Bool) (t2_Chunks : List (Int × Int × Int × Int)) (t2_Keys : List Int) (t2_Kids : List Int) (n_Chunks : List (Int × Int × Int × Int)) (n_Keys : List Int) (n_Kids : List Int) : Option (Bool × Bool × List (Int × Int × Int × Int) × List Int × List Int) := Sem E ⟨95, 0, some 8⟩ (block, count, i, t2_Leaf, n_Leaf, t2_Chunks, t2_Keys, t2_Kids, n_Chunks, n_Keys, n_Kids)
noncomputable def spec_l15Decode_l13 (block : ByteArray) (count : Int) (i : Int) (t2_Leaf : Bool) (n_Leaf : Bool) (t2_Chunks : List (Int × Int × Int × Int)) (t2_Keys : List Int) (t2_Kids : List Int) (n_Chunks : List (Int × Int × Int × Int)) (n_Keys : List Int) (n_Kids : List Int) : Option (Bool × Bool × List (Int × Int × Int × Int) × List Int × List Int) := Sem E ⟨95, 0, some 13⟩ (block, count, i, t2_Leaf, n_Leaf, t2_Chunks, t2_Keys, t2_Kids, n_Chunks, n_Keys, n_Kids)
noncomputable def spec_l00In (n : Int) (low : Int) (high : Int) : Option (Bool) := Sem E ⟨53, 0, none⟩ (n, low, high)
noncomputable def spec_l15Num (block : ByteArray) (at_ : Int) (size : Int) : Option (Int) := Sem E ⟨144, 0, none⟩ (block, at_, size)
noncomputable def spec_l01GetUint (s : ByteArray) (at_ : Int) (size : Int) : Option (Int × Bool) := Sem E ⟨162, 0, none⟩ (s, at_, size)
noncomputable def spec_l01GetUint_l5 (s : ByteArray) (at_ : Int) (n : Int) (k : Int) : Option (Int × Bool) := Sem E ⟨162, 0, some 5⟩ (s, at_, n, k)
noncomputable def spec_l01Within (s : ByteArray) (at_ : Int) (size : Int) : Option (Bool) := Sem E ⟨166, 0, none⟩ (s, at_, size)
noncomputable def spec_l15Node (n_Leaf : Bool) (n_Chunks : List (Int × Int × Int × Int)) (n_Keys : List Int) (n_Kids : List Int) : Option (Bool) := Sem E ⟨88, 0, none⟩ (n_Leaf, n_Chunks, n_Keys, n_Kids)
noncomputable def spec_l15Node_l3 (i : Int) (n_Leaf : Bool) (n_Chunks : List (Int × Int × Int × Int)) (n_Keys : List Int) (n_Kids : List Int) : Option (Bool) := Sem E ⟨88, 0, some 3⟩ (i, n_Leaf, n_Chunks, n_Keys, n_Kids)
noncomputable def spec_l15Node_l11 (i : Int) (n_Leaf : Bool) (n_Chunks : List (Int × Int × Int × Int)) (n_Keys : List Int) (n_Kids : List Int) : Option (Bool) := Sem E ⟨88, 0, some 11⟩ (i, n_Leaf, n_Chunks, n_Keys, n_Kids)
noncomputable def spec_l00Rises (list : List Int) (low : Int) (high : Int) : Option (Bool) := Sem E ⟨135, 0, none⟩ (list, low, high)
noncomputable def spec_l00Rises_l2 (list : List Int) (low : Int) (high : Int) (i : Int) : Option (Bool) := Sem E ⟨135, 0, some 2⟩ (list, low, high, i)
noncomputable def spec_l15Chunk (c_Key : Int) (c_At : Int) (c_Size : Int) (c_Mask : Int) : Option (Bool) := Sem E ⟨134, 0, none⟩ (c_Key, c_At, c_Size, c_Mask)
noncomputable def spec_l15Encode (n_Leaf : Bool) (n_Chunks : List (Int × Int × Int × Int)) (n_Keys : List Int) (n_Kids : List Int) : Option (ByteArray) := Sem E ⟨92, 0, none⟩ (n_Leaf, n_Chunks, n_Keys, n_Kids)
noncomputable def spec_l15Encode_l5 (t : ByteArray) (i : Int) (n_Leaf : Bool) (n_Chunks : List (Int × Int × Int × Int)) (n_Keys : List Int) (n_Kids : List Int) : Option (ByteArray) := Sem E ⟨92, 0, some 5⟩ (t, i, n_Leaf, n_Chunks, n_Keys, n_Kids)
noncomputable def spec_l15Encode_l12 (t : ByteArray) (i : Int) (n_Leaf : Bool) (n_Chunks : List (Int × Int × Int × Int)) (n_Keys : List Int) (n_Kids : List Int) : Option (ByteArray) := Sem E ⟨92, 0, some 12⟩ (t, i, n_Leaf, n_Chunks, n_Keys, n_Kids)
noncomputable def spec_l15Encode_l16 (t : ByteArray) (i : Int) (n_Leaf : Bool) (n_Chunks : List (Int × Int × Int × Int)) (n_Keys : List Int) (n_Kids : List Int) : Option (ByteArray) := Sem E ⟨92, 0, some 16⟩ (t, i, n_Leaf, n_Chunks, n_Keys, n_Kids)
noncomputable def spec_l01Bytes (n : Int) (size : Int) : Option (ByteArray) := Sem E ⟨143, 0, none⟩ (n, size)
noncomputable def spec_l01Bytes_l3 (n : Int) (size : Int) (k : Int) (out : List Int) : Option (ByteArray) := Sem E ⟨143, 0, some 3⟩ (n, size, k, out)
noncomputable def spec_l01Pad (s : ByteArray) (n : Int) : Option (ByteArray) := Sem E ⟨116, 0, none⟩ (s, n)
noncomputable def impl_DecodeNode (block : ByteArray) : Option (Bool × Bool × List (Int × Int × Int × Int) × List Int × List Int) := Sem E ⟨34, 0, none⟩ block
noncomputable def impl_DecodeNode_l8 (block : ByteArray) (many : Int) (k : Int) (t2_Leaf : Bool) (d_rest : ByteArray) (d_bad : Bool) (n_Leaf : Bool) (t2_Chunks : List (Int × Int × Int × Int)) (t2_Keys : List Int) (t2_Kids : List Int) (n_Chunks : List (Int × Int × Int × Int)) (n_Keys : List Int) (n_Kids : List Int) : Option (Bool × Bool × List (Int × Int × Int × Int) × List Int × List Int) := Sem E ⟨34, 0, some 8⟩ (block, many, k, t2_Leaf, d_rest, d_bad, n_Leaf, t2_Chunks, t2_Keys, t2_Kids, n_Chunks, n_Keys, n_Kids)
noncomputable def impl_isBlock (s : ByteArray) : Option (Bool) := Sem E ⟨68, 0, none⟩ s
noncomputable def impl_decoder_byte_w (d_rest : ByteArray) (d_bad : Bool) : Option (Int × ByteArray × Bool) := Sem E ⟨46, 0, none⟩ (d_rest, d_bad)
noncomputable def impl_decoder_number_w (size : Int) (d_rest : ByteArray) (d_bad : Bool) : Option (Int × ByteArray × Bool) := Sem E ⟨48, 0, none⟩ (size, d_rest, d_bad)
noncomputable def impl_decoder_take_w (n : Int) (d_rest : ByteArray) (d_bad : Bool) : Option (ByteArray × ByteArray × Bool) := Sem E ⟨47, 0, none⟩ (n, d_rest, d_bad)
noncomputable def impl_cut (s : ByteArray) (at_ : Int) (size : Int) : Option (ByteArray × Bool) := Sem E ⟨104, 0, none⟩ (s, at_, size)
noncomputable def impl_within (n : Int) (low : Int) (high : Int) : Option (Bool) := Sem E ⟨49, 0, none⟩ (n, low, high)
noncomputable def impl_getBits (s : ByteArray) : Option (Int) := Sem E ⟨105, 0, none⟩ s
noncomputable def impl_getBits_l3 (s : ByteArray) (n : Int) (t6 : Int) (t7 : Int) : Option (Int) := Sem E ⟨105, 0, some 3⟩ (s, n, t6, t7)
noncomputable def impl_decoder_pairs_w (many : Int) (d_rest : ByteArray) (d_bad : Bool) : Option (ByteArray × Bool × List Int) := Sem E ⟨89, 0, none⟩ (many, d_rest, d_bad)
noncomputable def impl_decoder_pairs_w_l3 (t6 : Int) (t7 : Int) (d_rest : ByteArray) (d_bad : Bool) (out : List Int) : Option (ByteArray × Bool × List Int) := Sem E ⟨89, 0, some 3⟩ (t6, t7, d_rest, d_bad, out)
noncomputable def impl_ValidNode (n_Leaf : Bool) (n_Chunks : List (Int × Int × Int × Int)) (n_Keys : List Int) (n_Kids : List Int) : Option (Bool) := Sem E ⟨90, 0, none⟩ (n_Leaf, n_Chunks, n_Keys, n_Kids)
noncomputable def impl_keysOf (list : List (Int × Int × Int × Int)) : Option (List Int) := Sem E ⟨137, 0, none⟩ list
noncomputable def impl_keysOf_l3 (t6 : List (Int × Int × Int × Int)) (t7 : Int) (t8 : Int) (out : List Int) : Option (List Int) := Sem E ⟨137, 0, some 3⟩ (t6, t7, t8, out)
noncomputable def impl_increasing (list : List Int) : Option (Bool) := Sem E ⟨136, 0, none⟩ list
noncomputable def impl_increasing_l2 (list : List Int) (i : Int) : Option (Bool) := Sem E ⟨136, 0, some 2⟩ (list, i)
noncomputable def slices_ContainsFunc_simpl_Chunk_impl_Chunk_d_ValidNode_1 (s : List (Int × Int × Int × Int)) : Option (Bool) := Sem E ⟨138, 0, none⟩ s
noncomputable def slices_IndexFunc_simpl_Chunk_impl_Chunk_d_ValidNode_1 (s : List (Int × Int × Int × Int)) : Option (Int) := Sem E ⟨160, 0, none⟩ s
noncomputable def slices_IndexFunc_simpl_Chunk_impl_Chunk_d_ValidNode_1_l2 (s : List (Int × Int × Int × Int)) (t7 : Int) (t8 : Int) : Option (Int) := Sem E ⟨160, 0, some 2⟩ (s, t7, t8)
noncomputable def impl_ValidNode_1 (c_Key : Int) (c_At : Int) (c_Size : Int) (c_Mask : Int) : Option (Bool) := Sem E ⟨139, 0, none⟩ (c_Key, c_At, c_Size, c_Mask)
noncomputable def impl_chunkOk (c_Key : Int) (c_At : Int) (c_Size : Int) (c_Mask : Int) : Option (Bool) := Sem E ⟨140, 0, none⟩ (c_Key, c_At, c_Size, c_Mask)
noncomputable def impl_allWithin (list : List Int) (low : Int) (high : Int) : Option (Bool) := Sem E ⟨80, 0, none⟩ (list, low, high)
noncomputable def slices_ContainsFunc_sint64_int64_d_allWithin_1 (s : List Int) (c0 : Int) (c1 : Int) : Option (Bool) := Sem E ⟨129, 0, none⟩ (s, c0, c1)
noncomputable def slices_IndexFunc_sint64_int64_d_allWithin_1 (s : List Int) (c0 : Int) (c1 : Int) : Option (Int) := Sem E ⟨159, 0, none⟩ (s, c0, c1)
noncomputable def slices_IndexFunc_sint64_int64_d_allWithin_1_l2 (s : List Int) (t7 : Int) (t8 : Int) (c0 : Int) (c1 : Int) : Option (Int) := Sem E ⟨159, 0, some 2⟩ (s, t7, t8, c0, c1)
noncomputable def impl_allWithin_1 (n : Int) (t1 : Int) (t2 : Int) : Option (Bool) := Sem E ⟨130, 0, none⟩ (n, t1, t2)
noncomputable def impl_Node_encode (n_Leaf : Bool) (n_Chunks : List (Int × Int × Int × Int)) (n_Keys : List Int) (n_Kids : List Int) : Option (ByteArray) := Sem E ⟨91, 0, none⟩ (n_Leaf, n_Chunks, n_Keys, n_Kids)
noncomputable def impl_Node_encode_l5 (out : ByteArray) (t31 : List (Int × Int × Int × Int)) (t32 : Int) (t33 : Int) : Option (ByteArray) := Sem E ⟨91, 0, some 5⟩ (out, t31, t32, t33)
noncomputable def impl_putBytes (n : Int) (size : Int) : Option (ByteArray) := Sem E ⟨102, 0, none⟩ (n, size)
noncomputable def impl_putBytes_l3 (n : Int) (t10 : Int) (t11 : Int) (out : List Int) : Option (ByteArray) := Sem E ⟨102, 0, some 3⟩ (n, t10, t11, out)
noncomputable def impl_putPairs (list : List Int) : Option (ByteArray) := Sem E ⟨142, 0, none⟩ list
noncomputable def impl_putPairs_l3 (t6 : List Int) (t7 : Int) (t8 : Int) (b_buf : List Int) : Option (ByteArray) := Sem E ⟨142, 0, some 3⟩ (t6, t7, t8, b_buf)
noncomputable def strings_Builder_WriteString_wv (s : ByteArray) (b_buf : List Int) : Option (Int × List Int) := Sem E ⟨100, 0, none⟩ (s, b_buf)
noncomputable def strings_Builder_copyCheck (_u : Unit) : Option (Unit) := Sem E ⟨146, 0, none⟩ ()
noncomputable def strings_Builder_String (x0 : List Int) : Option (ByteArray) := Sem E ⟨103, 0, none⟩ x0
noncomputable def impl_padded (s : ByteArray) (n : Int) : Option (ByteArray) := Sem E ⟨141, 0, none⟩ (s, n)
noncomputable def impl_zeros (n : Int) : Option (ByteArray) := Sem E ⟨161, 0, none⟩ n
noncomputable def strings_Repeat (x0 : ByteArray) (x1 : Int) : Option (ByteArray) := Sem E ⟨165, 0, none⟩ (x0, x1)
noncomputable def laws_eqNode (a_Leaf : Bool) (a_Chunks : List (Int × Int × Int × Int)) (a_Keys : List Int) (a_Kids : List Int) (b_Leaf : Bool) (b_Chunks : List (Int × Int × Int × Int)) (b_Keys : List Int) (b_Kids : List Int) : Option (Bool) := Sem E ⟨40, 0, none⟩ (a_Leaf, a_Chunks, a_Keys, a_Kids, b_Leaf, b_Chunks, b_Keys, b_Kids)
noncomputable def laws_eqChunkS (a : List (Int × Int × Int × Int)) (b : List (Int × Int × Int × Int)) : Option (Bool) := Sem E ⟨96, 0, none⟩ (a, b)
noncomputable def laws_eqChunkS_l4 (a : List (Int × Int × Int × Int)) (b : List (Int × Int × Int × Int)) (i : Int) : Option (Bool) := Sem E ⟨96, 0, some 4⟩ (a, b, i)
noncomputable def laws_eqChunk (a_Key : Int) (a_At : Int) (a_Size : Int) (a_Mask : Int) (b_Key : Int) (b_At : Int) (b_Size : Int) (b_Mask : Int) : Option (Bool) := Sem E ⟨145, 0, none⟩ (a_Key, a_At, a_Size, a_Mask, b_Key, b_At, b_Size, b_Mask)
noncomputable def laws_eqInt64S (a : List Int) (b : List Int) : Option (Bool) := Sem E ⟨28, 0, none⟩ (a, b)
noncomputable def laws_eqInt64S_l4 (a : List Int) (b : List Int) (i : Int) : Option (Bool) := Sem E ⟨28, 0, some 4⟩ (a, b, i)
noncomputable def laws_markNode_vvv (a_Leaf : Bool) (k : Int) (a_Chunks : List (Int × Int × Int × Int)) (a_Keys : List Int) (a_Kids : List Int) : Option (Int × List (Int × Int × Int × Int) × List Int × List Int) := Sem E ⟨41, 0, none⟩ (a_Leaf, k, a_Chunks, a_Keys, a_Kids)
noncomputable def laws_markChunkS_v (k : Int) (a : List (Int × Int × Int × Int)) : Option (Int × List (Int × Int × Int × Int)) := Sem E ⟨97, 0, none⟩ (k, a)
noncomputable def laws_markChunkS_v_l2 (k : Int) (i : Int) (a : List (Int × Int × Int × Int)) : Option (Int × List (Int × Int × Int × Int)) := Sem E ⟨97, 0, some 2⟩ (k, i, a)
noncomputable def laws_markInt64S_v (k : Int) (a : List Int) : Option (Int × List Int) := Sem E ⟨30, 0, none⟩ (k, a)
noncomputable def laws_markInt64S_v_l2 (k : Int) (i : Int) (a : List Int) : Option (Int × List Int) := Sem E ⟨30, 0, some 2⟩ (k, i, a)
noncomputable def laws_heldNode (a_Leaf : Bool) (a_Chunks : List (Int × Int × Int × Int)) (a_Keys : List Int) (a_Kids : List Int) (k : Int) : Option (Int) := Sem E ⟨42, 0, none⟩ (a_Leaf, a_Chunks, a_Keys, a_Kids, k)
noncomputable def laws_heldChunkS (a : List (Int × Int × Int × Int)) (k : Int) : Option (Int) := Sem E ⟨98, 0, none⟩ (a, k)
noncomputable def laws_heldChunkS_l2 (a : List (Int × Int × Int × Int)) (k : Int) (i : Int) : Option (Int) := Sem E ⟨98, 0, some 2⟩ (a, k, i)
noncomputable def laws_heldInt64S (a : List Int) (k : Int) : Option (Int) := Sem E ⟨85, 0, none⟩ (a, k)
noncomputable def laws_heldInt64S_l2 (a : List Int) (k : Int) (i : Int) : Option (Int) := Sem E ⟨85, 0, some 2⟩ (a, k, i)
end Go.Ve.X
