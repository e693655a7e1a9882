/- The environment of 'FnExactRootOf' for the evaluator: kinds of elements, layouts of the functions that it reaches (printed by plan.py). No condition. -/
import Derived.Test.YtbjjgoffcpdicaaVeC
import Derived.RangeFuncNested
import Derived.RangeFuncBound
import Derived.RangeFuncCalls
import Derived.RangeFuncLeaves
import Derived.Shelf.Abstract
import Derived.WalkKit
import Derived.OwnWalkIn
import Derived.TacticsInMore
import Derived.LoopNIn
import Derived.LoopIn
import Derived.Test.YtbjjgoffcpdicaaProg
namespace Go.Ve.X
open Go.Proofs Go.Ve Go.RowKit
set_option linter.unusedVariables false
set_option maxRecDepth 100000
inductive El | e5 | e9 | e72 | e82 | e100 | e101 | z
def El.K : El → Type | .e5 => Int | .e9 => ByteArray | .e72 => Int × ByteArray | .e82 => Int × ByteArray | .e100 => Int × ByteArray | .e101 => Int × ByteArray | .z => Unit
def El.sh : El → List TS | .e5 => [.int .u8] | .e9 => [.str] | .e72 => [.int .i64, .str] | .e82 => [.int .i64, .str] | .e100 => [.int .i64, .str] | .e101 => [.int .i64, .str] | .z => []
def code (n : Nat) : El := match n with | 5 => .e5 | 9 => .e9 | 72 => .e72 | 82 => .e82 | 100 => .e100 | 101 => .e101 | _ => .z
def KK (n : Nat) : Type := (code n).K
def El.toT : (c : El) → c.K → TL KK c.sh | .e5 => fun x => x | .e9 => fun x => x | .e72 => fun x => x | .e82 => fun x => x | .e100 => fun x => x | .e101 => fun x => x | .z => fun _ => ()
def El.ofT : (c : El) → TL KK c.sh → c.K | .e5 => fun x => x | .e9 => fun x => x | .e72 => fun x => x | .e82 => fun x => x | .e100 => fun x => x | .e101 => fun x => x | .z => fun _ => ()
theorem El.law (c : El) (t : TL KK c.sh) : c.toT (c.ofT t) = t := by cases c <;> rfl
noncomputable def S : Sig where
  K := KK
  sh := fun n => (code n).sh
  toT := fun n => (code n).toT
  ofT := fun n => (code n).ofT
  law := fun n => (code n).law
  u8 := 5
  bt := none
  ofB := fun s => Ve.ofB s
  toB := fun l => Ve.toB l
def L : List (Nat × Nat × Ann) := [
  (5, 0, { inL := ⟨[(0, .a [.d (.arr 9), .d (.arr 100), .d (.int .i64), .d (.bool), .d (.int .i64), .d (.int .i64), .d (.int .i64), .d (.int .i64), .d (.int .i64), .d (.int .i64), .d (.arr 72), .d (.arr 72)])], []⟩, outL := ⟨[(0, .c (.d (.bool)))], []⟩, labels := [] }),
  (6, 0, { inL := ⟨[(0, .a [.d (.arr 9), .d (.arr 100), .d (.int .i64), .d (.bool), .d (.int .i64), .d (.int .i64), .d (.int .i64), .d (.int .i64), .d (.int .i64), .d (.int .i64), .d (.arr 72), .d (.arr 72)]), (1, .c (.d (.int .i64)))], []⟩, outL := ⟨[(0, .c (.d (.int .i64)))], []⟩, labels := [] }),
  (15, 0, { inL := ⟨[(0, .a [.d (.arr 9), .d (.arr 100), .d (.int .i64), .d (.bool)]), (1, .c (.d (.int .i64)))], []⟩, outL := ⟨[(0, .c (.d (.int .i64)))], []⟩, labels := [] }),
  (35, 0, { inL := ⟨[(0, .c (.d (.arr 9))), (1, .c (.d (.int .i64)))], []⟩, outL := ⟨[(0, .c (.d (.int .i64)))], []⟩, labels := [(5, ⟨[(0, .c (.d (.arr 9))), (1, .c (.d (.int .i64))), (5, .c (.d (.int .i64)))], []⟩)] }),
  (36, 0, { inL := ⟨[(0, .c (.d (.arr 100))), (1, .c (.d (.int .i64)))], []⟩, outL := ⟨[(0, .c (.d (.int .i64)))], []⟩, labels := [(5, ⟨[(0, .c (.d (.arr 100))), (1, .c (.d (.int .i64))), (5, .c (.d (.int .i64)))], []⟩)] }),
  (65, 0, { inL := ⟨[(0, .a [.d (.int .i64), .d (.str)]), (1, .c (.d (.int .i64)))], []⟩, outL := ⟨[(0, .c (.d (.int .i64)))], []⟩, labels := [] }),
  (16, 0, { inL := ⟨[(0, .c (.d (.arr 72))), (1, .c (.d (.int .i64)))], []⟩, outL := ⟨[(0, .c (.d (.int .i64)))], []⟩, labels := [(5, ⟨[(0, .c (.d (.arr 72))), (1, .c (.d (.int .i64))), (5, .c (.d (.int .i64)))], []⟩)] }),
  (37, 0, { inL := ⟨[(0, .a [.d (.int .i64), .d (.str)]), (1, .c (.d (.int .i64)))], []⟩, outL := ⟨[(0, .c (.d (.int .i64)))], []⟩, labels := [] }),
  (8, 0, { inL := ⟨[(0, .a [.d (.arr 9), .d (.arr 100), .d (.int .i64), .d (.bool), .d (.int .i64), .d (.int .i64), .d (.int .i64), .d (.int .i64), .d (.int .i64), .d (.int .i64), .d (.arr 72), .d (.arr 72)])], []⟩, outL := ⟨[(0, .a [.vec 0, .vec 1, .d (.int .i64), .d (.bool), .d (.int .i64), .d (.int .i64), .d (.int .i64), .d (.int .i64), .d (.int .i64), .d (.int .i64), .vec 2, .vec 3])], [.vec 9, .vec 101, .vec 82, .vec 82]⟩, labels := [] }),
  (20, 0, { inL := ⟨[(0, .a [.d (.arr 9), .d (.arr 100), .d (.int .i64), .d (.bool)])], []⟩, outL := ⟨[(0, .a [.vec 0, .vec 1, .d (.int .i64), .d (.bool)])], [.vec 9, .vec 101]⟩, labels := [] }),
  (47, 0, { inL := ⟨[(0, .c (.d (.arr 9)))], []⟩, outL := ⟨[(0, .c (.vec 0))], [.vec 9]⟩, labels := [(3, ⟨[(0, .c (.d (.arr 9))), (3, .c (.vec 0)), (4, .c (.d (.int .i64)))], [.vec 9]⟩)] }),
  (48, 0, { inL := ⟨[(0, .c (.d (.arr 100)))], []⟩, outL := ⟨[(0, .c (.vec 0))], [.vec 101]⟩, labels := [(3, ⟨[(0, .c (.d (.arr 100))), (3, .c (.vec 0)), (4, .c (.d (.int .i64)))], [.vec 101]⟩)] }),
  (67, 0, { inL := ⟨[(0, .a [.d (.int .i64), .d (.str)])], []⟩, outL := ⟨[(0, .a [.d (.int .i64), .d (.str)])], []⟩, labels := [] }),
  (21, 0, { inL := ⟨[(0, .a [.d (.int .i64), .d (.int .i64), .d (.int .i64), .d (.int .i64)])], []⟩, outL := ⟨[(0, .a [.d (.int .i64), .d (.int .i64), .d (.int .i64), .d (.int .i64)])], []⟩, labels := [] }),
  (22, 0, { inL := ⟨[(0, .c (.d (.arr 72)))], []⟩, outL := ⟨[(0, .c (.vec 0))], [.vec 82]⟩, labels := [(3, ⟨[(0, .c (.d (.arr 72))), (3, .c (.vec 0)), (4, .c (.d (.int .i64)))], [.vec 82]⟩)] }),
  (49, 0, { inL := ⟨[(0, .a [.d (.int .i64), .d (.str)])], []⟩, outL := ⟨[(0, .a [.d (.int .i64), .d (.str)])], []⟩, labels := [] }),
  (13, 0, { inL := ⟨[(0, .a [.d (.arr 9), .d (.arr 101), .d (.int .i64), .d (.bool), .d (.int .i64), .d (.int .i64), .d (.int .i64), .d (.int .i64), .d (.int .i64), .d (.int .i64), .d (.arr 82), .d (.arr 82)])], []⟩, outL := ⟨[(0, .c (.d (.int .i64))), (1, .c (.d (.int .i64)))], []⟩, labels := [] }),
  (17, 0, { inL := ⟨[(0, .c (.ptr 0 0))], [.var false [.d (.arr 9), .d (.arr 101), .d (.int .i64), .d (.bool), .d (.int .i64), .d (.int .i64), .d (.int .i64), .d (.int .i64), .d (.int .i64), .d (.int .i64), .d (.arr 82), .d (.arr 82)]]⟩, outL := ⟨[(0, .c (.d (.bool)))], [.gone]⟩, labels := [] }),
  (38, 0, { inL := ⟨[(0, .c (.ptr 0 0))], [.var false [.d (.arr 9), .d (.arr 101), .d (.int .i64), .d (.bool), .d (.int .i64), .d (.int .i64), .d (.int .i64), .d (.int .i64), .d (.int .i64), .d (.int .i64), .d (.arr 82), .d (.arr 82)]]⟩, outL := ⟨[(0, .c (.d (.bool)))], [.gone]⟩, labels := [(5, ⟨[(0, .c (.ptr 0 0)), (3, .c (.d (.int .i64))), (4, .c (.d (.int .i64)))], [.var false [.d (.arr 9), .d (.arr 101), .d (.int .i64), .d (.bool), .d (.int .i64), .d (.int .i64), .d (.int .i64), .d (.int .i64), .d (.int .i64), .d (.int .i64), .d (.arr 82), .d (.arr 82)]]⟩), (10, ⟨[(0, .c (.ptr 0 0)), (3, .c (.d (.int .i64))), (5, .c (.d (.int .i64)))], [.var false [.d (.arr 9), .d (.arr 101), .d (.int .i64), .d (.bool), .d (.int .i64), .d (.int .i64), .d (.int .i64), .d (.int .i64), .d (.int .i64), .d (.int .i64), .d (.arr 82), .d (.arr 82)]]⟩)] }),
  (40, 0, { inL := ⟨[(0, .c (.d (.int .i64))), (1, .c (.d (.int .i64))), (2, .c (.d (.int .i64)))], []⟩, outL := ⟨[(0, .c (.d (.bool)))], []⟩, labels := [] }),
  (39, 0, { inL := ⟨[(0, .a [.d (.int .i64), .d (.int .i64), .d (.int .i64), .d (.int .i64)])], []⟩, outL := ⟨[(0, .c (.d (.bool)))], []⟩, labels := [] }),
  (41, 0, { inL := ⟨[(0, .c (.d (.arr 82)))], []⟩, outL := ⟨[(0, .c (.d (.bool)))], []⟩, labels := [(4, ⟨[(0, .c (.d (.arr 82))), (3, .c (.d (.int .i64)))], []⟩)] }),
  (42, 0, { inL := ⟨[(0, .a [.d (.int .i64), .d (.int .i64), .d (.int .i64), .d (.int .i64)]), (1, .c (.d (.arr 82)))], []⟩, outL := ⟨[(0, .c (.d (.bool)))], []⟩, labels := [(2, ⟨[(1, .c (.d (.arr 82))), (2, .c (.ptr 0 0)), (5, .c (.d (.int .i64)))], [.var true [.d (.int .i64), .d (.int .i64), .d (.int .i64), .d (.int .i64)]]⟩)] }),
  (44, 0, { inL := ⟨[(0, .a [.d (.int .i64), .d (.int .i64), .d (.int .i64), .d (.int .i64)])], []⟩, outL := ⟨[(0, .c (.d (.int .i64)))], []⟩, labels := [] }),
  (43, 0, { inL := ⟨[(0, .a [.d (.int .i64), .d (.int .i64), .d (.int .i64), .d (.int .i64)]), (1, .c (.d (.int .i64)))], []⟩, outL := ⟨[(0, .c (.d (.bool)))], []⟩, labels := [] }),
  (66, 0, { inL := ⟨[(0, .c (.d (.int .i64)))], []⟩, outL := ⟨[(0, .c (.d (.int .i64)))], []⟩, labels := [] }),
  (81, 0, { inL := ⟨[(0, .c (.d (.int .i64)))], []⟩, outL := ⟨[(0, .c (.d (.int .i64)))], []⟩, labels := [] }),
  (33, 0, { inL := ⟨[(0, .c (.ptr 0 0))], [.var false [.d (.arr 9), .d (.arr 101), .d (.int .i64), .d (.bool), .d (.int .i64), .d (.int .i64), .d (.int .i64), .d (.int .i64), .d (.int .i64), .d (.int .i64), .d (.arr 82), .d (.arr 82)]]⟩, outL := ⟨[(0, .c (.d (.int .i64)))], [.gone]⟩, labels := [] }),
  (31, 0, { inL := ⟨[(0, .c (.ptr 0 0))], [.var false [.d (.arr 9), .d (.arr 101), .d (.int .i64), .d (.bool), .d (.int .i64), .d (.int .i64), .d (.int .i64), .d (.int .i64), .d (.int .i64), .d (.int .i64), .d (.arr 82), .d (.arr 82)]]⟩, outL := ⟨[(0, .c (.d (.str)))], [.gone]⟩, labels := [] }),
  (19, 0, { inL := ⟨[(0, .c (.ptr 0 0)), (1, .c (.d (.int .i64)))], [.var false [.d (.arr 9), .d (.arr 101), .d (.int .i64), .d (.bool), .d (.int .i64), .d (.int .i64), .d (.int .i64), .d (.int .i64), .d (.int .i64), .d (.int .i64), .d (.arr 82), .d (.arr 82)]]⟩, outL := ⟨[(0, .c (.d (.str)))], [.gone]⟩, labels := [] }),
  (45, 0, { inL := ⟨[(0, .c (.d (.arr 82))), (1, .c (.d (.int .i64)))], []⟩, outL := ⟨[(0, .c (.d (.int .i64)))], []⟩, labels := [(2, ⟨[(0, .c (.d (.arr 82))), (1, .c (.d (.int .i64))), (5, .c (.d (.int .i64)))], []⟩)] }),
  (46, 0, { inL := ⟨[(0, .c (.ptr 0 0)), (1, .c (.d (.int .i64)))], [.var false [.d (.arr 9), .d (.arr 101), .d (.int .i64), .d (.bool), .d (.int .i64), .d (.int .i64), .d (.int .i64), .d (.int .i64), .d (.int .i64), .d (.int .i64), .d (.arr 82), .d (.arr 82)]]⟩, outL := ⟨[(0, .c (.d (.str)))], [.gone]⟩, labels := [(2, ⟨[(0, .c (.ptr 0 0)), (1, .c (.d (.int .i64))), (5, .c (.d (.int .i64)))], [.var false [.d (.arr 9), .d (.arr 101), .d (.int .i64), .d (.bool), .d (.int .i64), .d (.int .i64), .d (.int .i64), .d (.int .i64), .d (.int .i64), .d (.int .i64), .d (.arr 82), .d (.arr 82)]]⟩)] }),
  (63, 0, { inL := ⟨[(0, .c (.d (.str))), (1, .c (.d (.int .i64))), (2, .c (.d (.int .i64)))], []⟩, outL := ⟨[(0, .c (.d (.int .i64))), (1, .c (.d (.bool)))], []⟩, labels := [(5, ⟨[(0, .c (.d (.str))), (1, .c (.d (.int .i64))), (8, .c (.d (.int .i64))), (9, .c (.d (.int .i64)))], []⟩)] }),
  (80, 0, { inL := ⟨[(0, .c (.d (.str))), (1, .c (.d (.int .i64))), (2, .c (.d (.int .i64)))], []⟩, outL := ⟨[(0, .c (.d (.bool)))], []⟩, labels := [] }),
  (14, 0, { inL := ⟨[(0, .a [.d (.arr 9), .d (.arr 101), .d (.int .i64), .d (.bool), .d (.int .i64), .d (.int .i64), .d (.int .i64), .d (.int .i64), .d (.int .i64), .d (.int .i64), .d (.arr 82), .d (.arr 82)])], []⟩, outL := ⟨[(0, .c (.d (.int .i64))), (1, .c (.d (.int .i64)))], []⟩, labels := [] }),
  (23, 0, { inL := ⟨[(0, .a [.d (.arr 9), .d (.arr 101), .d (.int .i64), .d (.bool), .d (.int .i64), .d (.int .i64), .d (.int .i64), .d (.int .i64), .d (.int .i64), .d (.int .i64), .d (.arr 82), .d (.arr 82)])], []⟩, outL := ⟨[(0, .c (.d (.bool)))], []⟩, labels := [] }),
  (50, 0, { inL := ⟨[(0, .a [.d (.arr 9), .d (.arr 101), .d (.int .i64), .d (.bool)]), (1, .a [.d (.int .i64), .d (.int .i64), .d (.int .i64), .d (.int .i64)])], []⟩, outL := ⟨[(0, .c (.d (.bool)))], []⟩, labels := [] }),
  (68, 0, { inL := ⟨[(0, .a [.d (.arr 9), .d (.arr 101), .d (.int .i64), .d (.bool)])], []⟩, outL := ⟨[(0, .c (.d (.bool)))], []⟩, labels := [] }),
  (51, 0, { inL := ⟨[(0, .c (.d (.int .i64))), (1, .c (.d (.int .i64))), (2, .c (.d (.int .i64)))], []⟩, outL := ⟨[(0, .c (.d (.bool)))], []⟩, labels := [] }),
  (82, 0, { inL := ⟨[(0, .c (.d (.arr 9))), (1, .c (.fn 83 []))], []⟩, outL := ⟨[(0, .c (.d (.bool)))], []⟩, labels := [] }),
  (91, 0, { inL := ⟨[(0, .c (.d (.arr 9))), (1, .c (.fn 83 []))], []⟩, outL := ⟨[(0, .c (.d (.int .i64)))], []⟩, labels := [(2, ⟨[(0, .c (.d (.arr 9))), (1, .c (.fn 83 [])), (7, .c (.d (.int .i64))), (8, .c (.d (.int .i64)))], []⟩)] }),
  (83, 0, { inL := ⟨[(0, .c (.d (.str)))], []⟩, outL := ⟨[(0, .c (.d (.bool)))], []⟩, labels := [] }),
  (70, 0, { inL := ⟨[(0, .c (.d (.str)))], []⟩, outL := ⟨[(0, .c (.d (.bool)))], []⟩, labels := [] }),
  (84, 0, { inL := ⟨[(0, .c (.d (.arr 101))), (1, .c (.fn 85 [(0, 0)]))], [.var false [.d (.arr 9), .d (.arr 101), .d (.int .i64), .d (.bool)]]⟩, outL := ⟨[(0, .c (.d (.bool)))], [.gone]⟩, labels := [] }),
  (92, 0, { inL := ⟨[(0, .c (.d (.arr 101))), (1, .c (.fn 85 [(0, 0)]))], [.var false [.d (.arr 9), .d (.arr 101), .d (.int .i64), .d (.bool)]]⟩, outL := ⟨[(0, .c (.d (.int .i64)))], [.gone]⟩, labels := [(2, ⟨[(0, .c (.d (.arr 101))), (1, .c (.fn 85 [(0, 0)])), (7, .c (.d (.int .i64))), (8, .c (.d (.int .i64)))], [.var false [.d (.arr 9), .d (.arr 101), .d (.int .i64), .d (.bool)]]⟩)] }),
  (85, 0, { inL := ⟨[(0, .a [.d (.int .i64), .d (.str)]), (1, .c (.ptr 0 0))], [.var false [.d (.arr 9), .d (.arr 101), .d (.int .i64), .d (.bool)]]⟩, outL := ⟨[(0, .c (.d (.bool)))], [.gone]⟩, labels := [] }),
  (86, 0, { inL := ⟨[(0, .c (.d (.int .i64))), (1, .c (.d (.int .i64)))], []⟩, outL := ⟨[(0, .c (.d (.bool)))], []⟩, labels := [] }),
  (69, 0, { inL := ⟨[(0, .a [.d (.int .i64), .d (.int .i64), .d (.int .i64), .d (.int .i64)])], []⟩, outL := ⟨[(0, .c (.d (.bool)))], []⟩, labels := [] }),
  (52, 0, { inL := ⟨[(0, .c (.d (.arr 82)))], []⟩, outL := ⟨[(0, .c (.d (.bool)))], []⟩, labels := [(2, ⟨[(0, .c (.d (.arr 82))), (5, .c (.d (.arr 82))), (6, .c (.d (.int .i64))), (7, .c (.d (.int .i64)))], []⟩)] }),
  (53, 0, { inL := ⟨[(0, .a [.d (.int .i64), .d (.int .i64), .d (.int .i64), .d (.int .i64)]), (1, .c (.d (.arr 82)))], []⟩, outL := ⟨[(0, .c (.d (.bool)))], []⟩, labels := [] }),
  (71, 0, { inL := ⟨[(0, .c (.d (.arr 82))), (1, .c (.fn 72 [(0, 0)]))], [.var false [.d (.int .i64), .d (.int .i64), .d (.int .i64), .d (.int .i64)]]⟩, outL := ⟨[(0, .c (.d (.bool)))], [.gone]⟩, labels := [] }),
  (87, 0, { inL := ⟨[(0, .c (.d (.arr 82))), (1, .c (.fn 72 [(0, 0)]))], [.var false [.d (.int .i64), .d (.int .i64), .d (.int .i64), .d (.int .i64)]]⟩, outL := ⟨[(0, .c (.d (.int .i64)))], [.gone]⟩, labels := [(2, ⟨[(0, .c (.d (.arr 82))), (1, .c (.fn 72 [(0, 0)])), (7, .c (.d (.int .i64))), (8, .c (.d (.int .i64)))], [.var false [.d (.int .i64), .d (.int .i64), .d (.int .i64), .d (.int .i64)]]⟩)] }),
  (72, 0, { inL := ⟨[(0, .a [.d (.int .i64), .d (.str)]), (1, .c (.ptr 0 0))], [.var false [.d (.int .i64), .d (.int .i64), .d (.int .i64), .d (.int .i64)]]⟩, outL := ⟨[(0, .c (.d (.bool)))], [.gone]⟩, labels := [] }),
  (73, 0, { inL := ⟨[(0, .a [.d (.int .i64), .d (.int .i64), .d (.int .i64), .d (.int .i64)])], []⟩, outL := ⟨[(0, .c (.d (.int .i64)))], []⟩, labels := [] }),
  (54, 0, { inL := ⟨[(0, .a [.d (.int .i64), .d (.int .i64), .d (.int .i64), .d (.int .i64)]), (1, .c (.d (.int .i64)))], []⟩, outL := ⟨[(0, .c (.d (.bool)))], []⟩, labels := [] }),
  (74, 0, { inL := ⟨[(0, .c (.d (.int .i64)))], []⟩, outL := ⟨[(0, .c (.d (.int .i64)))], []⟩, labels := [] }),
  (88, 0, { inL := ⟨[(0, .c (.d (.int .i64)))], []⟩, outL := ⟨[(0, .c (.d (.int .i64)))], []⟩, labels := [] }),
  (34, 0, { inL := ⟨[(0, .c (.ptr 0 0))], [.var false [.d (.arr 9), .d (.arr 101), .d (.int .i64), .d (.bool), .d (.int .i64), .d (.int .i64), .d (.int .i64), .d (.int .i64), .d (.int .i64), .d (.int .i64), .d (.arr 82), .d (.arr 82)]]⟩, outL := ⟨[(0, .c (.d (.int .i64)))], [.gone]⟩, labels := [] }),
  (55, 0, { inL := ⟨[(0, .c (.ptr 0 0))], [.var false [.d (.arr 9), .d (.arr 101), .d (.int .i64), .d (.bool), .d (.int .i64), .d (.int .i64), .d (.int .i64), .d (.int .i64), .d (.int .i64), .d (.int .i64), .d (.arr 82), .d (.arr 82)]]⟩, outL := ⟨[(0, .c (.d (.int .i64)))], [.gone]⟩, labels := [] }),
  (25, 0, { inL := ⟨[(0, .c (.ptr 0 0)), (1, .c (.d (.int .i64)))], [.var false [.d (.arr 9), .d (.arr 101), .d (.int .i64), .d (.bool), .d (.int .i64), .d (.int .i64), .d (.int .i64), .d (.int .i64), .d (.int .i64), .d (.int .i64), .d (.arr 82), .d (.arr 82)]]⟩, outL := ⟨[(0, .c (.d (.str)))], [.gone]⟩, labels := [] }),
  (56, 0, { inL := ⟨[(0, .c (.d (.arr 82))), (1, .c (.d (.int .i64)))], []⟩, outL := ⟨[(0, .c (.d (.int .i64))), (1, .c (.d (.bool)))], []⟩, labels := [] }),
  (75, 0, { inL := ⟨[(0, .c (.d (.arr 82))), (1, .c (.d (.int .i64))), (2, .c (.fn 76 []))], []⟩, outL := ⟨[(0, .c (.d (.int .i64))), (1, .c (.d (.bool)))], []⟩, labels := [(3, ⟨[(0, .c (.d (.arr 82))), (1, .c (.d (.int .i64))), (2, .c (.fn 76 [])), (8, .c (.d (.int .i64))), (9, .c (.d (.int .i64))), (10, .c (.d (.int .i64)))], []⟩)] }),
  (76, 0, { inL := ⟨[(0, .a [.d (.int .i64), .d (.str)]), (1, .c (.d (.int .i64)))], []⟩, outL := ⟨[(0, .c (.d (.int .i64)))], []⟩, labels := [] }),
  (77, 0, { inL := ⟨[(0, .c (.d (.int .i64))), (1, .c (.d (.int .i64)))], []⟩, outL := ⟨[(0, .c (.d (.int .i64)))], []⟩, labels := [] }),
  (89, 0, { inL := ⟨[(0, .c (.d (.int .i64)))], []⟩, outL := ⟨[(0, .c (.d (.bool)))], []⟩, labels := [] }),
  (57, 0, { inL := ⟨[(0, .c (.ptr 0 0)), (1, .c (.d (.int .i64)))], [.var false [.d (.arr 9), .d (.arr 101), .d (.int .i64), .d (.bool), .d (.int .i64), .d (.int .i64), .d (.int .i64), .d (.int .i64), .d (.int .i64), .d (.int .i64), .d (.arr 82), .d (.arr 82)]]⟩, outL := ⟨[(0, .c (.d (.str)))], [.gone]⟩, labels := [] }),
  (78, 0, { inL := ⟨[(0, .a [.d (.arr 9), .d (.arr 101), .d (.int .i64), .d (.bool)]), (1, .c (.d (.int .i64)))], []⟩, outL := ⟨[(0, .c (.d (.str)))], []⟩, labels := [] }),
  (64, 0, { inL := ⟨[(0, .c (.d (.str)))], []⟩, outL := ⟨[(0, .c (.d (.int .u64)))], []⟩, labels := [(3, ⟨[(0, .c (.d (.str))), (3, .c (.d (.int .u64))), (6, .c (.d (.int .i64))), (7, .c (.d (.int .i64)))], []⟩)] }),
  (10, 0, { inL := ⟨[(0, .a [.d (.arr 9), .d (.arr 101), .d (.int .i64), .d (.bool), .d (.int .i64), .d (.int .i64), .d (.int .i64), .d (.int .i64), .d (.int .i64), .d (.int .i64), .d (.arr 82), .d (.arr 82)]), (1, .a [.d (.arr 9), .d (.arr 101), .d (.int .i64), .d (.bool), .d (.int .i64), .d (.int .i64), .d (.int .i64), .d (.int .i64), .d (.int .i64), .d (.int .i64), .d (.arr 82), .d (.arr 82)])], []⟩, outL := ⟨[(0, .c (.d (.bool)))], []⟩, labels := [] }),
  (26, 0, { inL := ⟨[(0, .a [.d (.arr 9), .d (.arr 101), .d (.int .i64), .d (.bool)]), (1, .a [.d (.arr 9), .d (.arr 101), .d (.int .i64), .d (.bool)])], []⟩, outL := ⟨[(0, .c (.d (.bool)))], []⟩, labels := [] }),
  (58, 0, { inL := ⟨[(0, .c (.d (.arr 9))), (1, .c (.d (.arr 9)))], []⟩, outL := ⟨[(0, .c (.d (.bool)))], []⟩, labels := [(4, ⟨[(0, .c (.d (.arr 9))), (1, .c (.d (.arr 9))), (5, .c (.d (.int .i64)))], []⟩)] }),
  (59, 0, { inL := ⟨[(0, .c (.d (.arr 101))), (1, .c (.d (.arr 101)))], []⟩, outL := ⟨[(0, .c (.d (.bool)))], []⟩, labels := [(4, ⟨[(0, .c (.d (.arr 101))), (1, .c (.d (.arr 101))), (5, .c (.d (.int .i64)))], []⟩)] }),
  (79, 0, { inL := ⟨[(0, .a [.d (.int .i64), .d (.str)]), (1, .a [.d (.int .i64), .d (.str)])], []⟩, outL := ⟨[(0, .c (.d (.bool)))], []⟩, labels := [] }),
  (27, 0, { inL := ⟨[(0, .a [.d (.int .i64), .d (.int .i64), .d (.int .i64), .d (.int .i64)]), (1, .a [.d (.int .i64), .d (.int .i64), .d (.int .i64), .d (.int .i64)])], []⟩, outL := ⟨[(0, .c (.d (.bool)))], []⟩, labels := [] }),
  (28, 0, { inL := ⟨[(0, .c (.d (.arr 82))), (1, .c (.d (.arr 82)))], []⟩, outL := ⟨[(0, .c (.d (.bool)))], []⟩, labels := [(4, ⟨[(0, .c (.d (.arr 82))), (1, .c (.d (.arr 82))), (5, .c (.d (.int .i64)))], []⟩)] }),
  (60, 0, { inL := ⟨[(0, .a [.d (.int .i64), .d (.str)]), (1, .a [.d (.int .i64), .d (.str)])], []⟩, outL := ⟨[(0, .c (.d (.bool)))], []⟩, labels := [] })]
noncomputable def X : List (ExtRow S (annOf Try.prog L)) := [⟨78, 0, fun d => dkRead (d.1) (d.2.1) (d.2.2.2.2)⟩]
@[reducible] noncomputable def E : Env := { S := S, tt := tdOf Try.prog, ann := annOf Try.prog L, ext := extAt S (annOf Try.prog L) X, eqs := fun t => get ([] : List (Nat × List TS)) t }
theorem rows_ok : rowsOk Try.prog L = true := by kernel_rfl
theorem env_ok : EnvOk Try.prog E := envOk_of (by kernel_rfl) rfl rfl rows_ok (eqs_nil) (by kernel_rfl) rfl ofB_len
  (fun s i x h => by
    obtain ⟨b, h1, h2⟩ := Ve.ofB_at (x := x) h
    exact ⟨b, h1, by rw [← h2]; rfl⟩)
  (fun l ns h hl => toB_row (fun i x hx => by
    obtain ⟨n, h1, h2⟩ := h i x hx
    have h2' : ([.int .u8 x] : List (Cell S.K)) = [.int .u8 n] := h2
    injection h2' with h2' _
    injection h2' with _ h2'
    rw [h1, h2']) hl)
/-! ### (impl.Disk).read: a range over slices.Backward, walked by the kit's law for callers of iterators -/
section
open Go.Shelf
attribute [local go_sem] Oper.semAt_some
abbrev DkE := Nat × (Int × ByteArray)
/-- what comes in the first k rounds: the last, the one before, .. -/
def dkUp (zs : List (Int × ByteArray)) (k : Nat) : List DkE := (List.range k).map (fun j => (zs.length - 1 - j, zs[zs.length - 1 - j]?.getD (0, ⟨#[]⟩)))
theorem dkUp_succ (zs : List (Int × ByteArray)) (m : Nat) (h : m < zs.length) : dkUp zs (zs.length - m) = dkUp zs (zs.length - (m + 1)) ++ [(m, zs[m]?.getD (0, ⟨#[]⟩))] := by
  have e : zs.length - m = (zs.length - (m + 1)) + 1 := by omega
  have e2 : zs.length - 1 - (zs.length - (m + 1)) = m := by omega
  rw [e, dkUp, List.range_succ, List.map_append]
  simp [dkUp, e2]
theorem dkUp_length (zs : List (Int × ByteArray)) (k : Nat) : (dkUp zs k).length = k := by simp [dkUp]
abbrev dkEnc (x : DkE) : Array Value := #[Value.int .i64 (x.1 : Int), Value.agg #[.int .i64 x.2.1, .string x.2.2]]

set_option maxRecDepth 100000 in
set_option maxHeartbeats 4000000 in
theorem dk_closure (F : Fence) (n : Nat) (h7 : F.fn 93) (hro : F.round = none) (hn : 1 ≤ n) (l Bs n₀ b off cap : Nat) (zs : List (Int × ByteArray)) (hreach : zs.length * 24 ≤ 140737488351232) (hb : b < n₀) (hBn : Bs < n₀) (J Jx : List DkE → World → Prop)
    (hY : ∀ pre x W, J pre W → pre.length < zs.length → YieldAt F (n - 1) Try.prog l #[.int .i64 (x.1 : Int), .agg #[.int .i64 x.2.1, .string x.2.2]] W fun e W' =>
      (e = .returned (.bool true) ∧ J (pre ++ [x]) W' ∧ Below n₀ W W') ∨ (e = .returned (.bool false) ∧ Jx (pre ++ [x]) W'))
    (W : World) (hBs : W.cell? ⟨Bs, 0, none⟩ = some (.slice (some ⟨b, off, none⟩) zs.length cap))
    (hc : ∀ j, j < zs.length → W.cell? ⟨b, off + j * 2, none⟩ = some (.int .i64 (zs[j]?.getD (0, ⟨#[]⟩)).1) ∧ W.cell? ⟨b, off + j * 2 + 1, none⟩ = some (.string (zs[j]?.getD (0, ⟨#[]⟩)).2)) (h0 : J [] W) :
    CallsIn F n Try.prog 93 #[.func (.yield l) #[] #[], .pointer (some ⟨Bs, 0, none⟩)] W fun e W' => (∃ v, e = .returned v) ∧
      ((∃ ys, ys = dkUp zs zs.length ∧ J ys W') ∨ (∃ pre, (∃ k, k ≤ zs.length ∧ pre = dkUp zs k) ∧ Jx pre W')) := by
  refine callsIn_of_wp Try.func93 rfl h7 ?_ hro
  simp only [Try.ntmps93, List.size_toArray, List.length_cons, List.length_nil, Nat.reduceAdd, Nat.reduceSub, Array.replicate_succ, Array.replicate_zero, List.push_toArray, List.append_toArray, List.nil_append, List.cons_append]
  gi_wp2
  gi_loopw [3] (fun i wr => ∃ r : Nat, r ≤ zs.length ∧ i = .int .i64 ((r : Int) - 1) ∧ J (dkUp zs (zs.length - r)) wr ∧ Below n₀ W wr)
    (fun i _ => (intOf i + 1).toNat)
  case atStart => exact ⟨zs.length, Nat.le_refl _, rfl, by rw [Nat.sub_self]; exact h0, Below.refl _ _⟩
  case round =>
    obtain ⟨r, hk, rfl, hJs, hnx⟩ := hrel
    cases r with
    | zero =>
      gi_wp2
      go_end0
      exact ⟨⟨_, rfl⟩, .inl ⟨_, rfl, hJs⟩⟩
    | succ m =>
      have ei : (((m + 1 : Nat) : Int) - 1) = (m : Int) := by omega
      rw [ei]
      have hcx := hc m (by omega)
      have hc1 := (hnx.cell (p := ⟨b, off + m * 2, none⟩) hb).trans hcx.1
      have hc2 := (hnx.cell (p := ⟨b, off + m * 2 + 1, none⟩) hb).trans hcx.2
      have hBs1 := (hnx.cell (p := ⟨Bs, 0, none⟩) hBn).trans hBs
      clear hcx hc
      obtain ⟨fn, tmps, assign, body, hy, hR⟩ := hY _ (m, zs[m]?.getD (0, ⟨#[]⟩)) wr hJs (by rw [dkUp_length]; omega)
      dsimp only at hy
      rw [← dkUp_succ zs m (by omega)] at hR
      gi_wp2
      refine hR.mono ?_
      rintro e W3 (⟨rfl, hJ3, hk3⟩ | ⟨rfl, hJx3⟩)
      · gi_wp2
        go_roundw
        case rel => exact ⟨m, by omega, by simp, hJ3, hnx.trans hk3⟩
        case measure => simp [intOf]
      · gi_wp2
        refine bodyPost_ret (results_none rfl _ _ _) rfl ?_
        exact ⟨⟨_, rfl⟩, .inr ⟨_, ⟨zs.length - m, by omega, rfl⟩, hJx3⟩⟩

set_option maxRecDepth 100000 in
set_option maxHeartbeats 2000000 in
theorem dk_closure0 (F : Fence) (n : Nat) (h7 : F.fn 93) (hro : F.round = none) (l Bs cap : Nat) (sa : Option Addr) (J : List DkE → World → Prop) (W : World) (hBs : W.cell? ⟨Bs, 0, none⟩ = some (.slice sa 0 cap)) (h0 : J [] W) :
    CallsIn F n Try.prog 93 #[.func (.yield l) #[] #[], .pointer (some ⟨Bs, 0, none⟩)] W fun e W' => (∃ v, e = .returned v) ∧ J [] W' := by
  refine callsIn_of_wp Try.func93 rfl h7 ?_ hro
  simp only [Try.ntmps93, List.size_toArray, List.length_cons, List.length_nil, Nat.reduceAdd, Nat.reduceSub, Array.replicate_succ, Array.replicate_zero, List.push_toArray, List.append_toArray, List.nil_append, List.cons_append]
  gi_wp2
  gi_loopw [3] (fun i wr => i = .int .i64 (-1) ∧ J [] wr) (fun _ _ => 0)
  case atStart => exact ⟨rfl, h0⟩
  case round =>
    obtain ⟨rfl, hJs⟩ := hrel
    gi_wp2
    go_end0
    exact ⟨⟨_, rfl⟩, hJs⟩
set_option maxHeartbeats 1000000 in
theorem dk_back (F : Fence) (n : Nat) (h5 : F.fn 90) (hro : F.round = none) (a : Option Addr) (len cap : Nat) (w : World) :
    CallsIn F n Try.prog 90 #[.slice a len cap] w fun e w' => e = .returned (.func (.func 93) #[] #[.pointer (some ⟨w.heap.size, 0, none⟩)]) ∧ w' = w.alloc (.cells #[.slice a len cap] 34) := by
  refine callsIn_of_wp Try.func90 rfl h5 ?_ hro
  simp only [Try.ntmps90, List.size_toArray, List.length_cons, List.length_nil, Nat.reduceAdd, Nat.reduceSub, Array.replicate_succ, Array.replicate_zero, List.push_toArray, List.append_toArray, List.nil_append, List.cons_append]
  gi_wp2
  go_ret
  exact ⟨rfl, rfl⟩
/-- the slice value sv holds the rows zs, in a block below n₀; or there are none -/
def DkIs (n₀ : Nat) (W : World) (sv : Value) (zs : List (Int × ByteArray)) : Prop :=
  (zs = [] ∧ ∃ a cap, sv = .slice a 0 cap) ∨ ∃ b off cap, sv = .slice (some ⟨b, off, none⟩) zs.length cap ∧ b < n₀ ∧ ∀ j, j < zs.length → W.cell? ⟨b, off + j * 2, none⟩ = some (.int .i64 (zs[j]?.getD (0, ⟨#[]⟩)).1) ∧ W.cell? ⟨b, off + j * 2 + 1, none⟩ = some (.string (zs[j]?.getD (0, ⟨#[]⟩)).2)
theorem DkIs.below {n₀ n : Nat} {A B : World} (h : Below n A B) (hn : n₀ ≤ n) {sv : Value} {zs : List (Int × ByteArray)} : DkIs n₀ A sv zs → DkIs n B sv zs
  | .inl e => .inl e
  | .inr ⟨b, off, cap, e, hb, hc⟩ => .inr ⟨b, off, cap, e, by omega, fun j hj => ⟨(h.cell (p := ⟨b, off + j * 2, none⟩) (show b < n by omega)).trans (hc j hj).1, (h.cell (p := ⟨b, off + j * 2 + 1, none⟩) (show b < n by omega)).trans (hc j hj).2⟩⟩
theorem DkIs.up {n n' : Nat} {A : World} (hn : n ≤ n') {sv : Value} {zs : List (Int × ByteArray)} : DkIs n A sv zs → DkIs n' A sv zs
  | .inl e => .inl e
  | .inr ⟨b, off, cap, e, hb, hc⟩ => .inr ⟨b, off, cap, e, by omega, hc⟩
theorem dk_stops (F : Fence) (n : Nat) (h8 : F.fn 93) (hro : F.round = none) (hn : 1 ≤ n) (Bs n₀ : Nat) (sv : Value) (zs : List (Int × ByteArray)) (hreach : zs.length * 24 ≤ 140737488351232) (w : World) (hBs : Bs < n₀) (hn₀ : n₀ ≤ w.heap.size)
    (hc : w.cell? ⟨Bs, 0, none⟩ = some sv) (hI : DkIs n₀ w sv zs) :
    SeqStopsK F n Try.prog 93 #[.pointer (some ⟨Bs, 0, none⟩)] (fun x : DkE => #[Value.int .i64 (x.1 : Int), .agg #[.int .i64 x.2.1, .string x.2.2]]) (Below n₀) (fun ys => ys = dkUp zs zs.length) (fun pre => ∃ k, k ≤ zs.length ∧ pre = dkUp zs k) zs.length w := fun l J Jx W hW _ _ hY h0 => by
  have hc' := (hW.cell (p := ⟨Bs, 0, none⟩) (show Bs < w.heap.size by omega)).trans hc
  rcases DkIs.below (hW.mono hn₀) (Nat.le_refl _) hI with ⟨rfl, a, cap, rfl⟩ | ⟨b, off, cap, rfl, hb, hcs⟩
  · exact (dk_closure0 F n h8 hro l Bs cap a J W hc' h0).mono fun e W' ⟨he, hj⟩ => ⟨he, .inl ⟨_, rfl, hj⟩⟩
  · exact dk_closure F n h8 hro hn l Bs n₀ b off cap zs hreach hb hBs J Jx hY W hc' hcs h0
/-- a block of cells that stays -/
def BoxN (W : World) (B : Nat) (t : TypeId) (vs : Array Value) : Prop := W.heap[B]? = some (.cells vs t (0, 0))
theorem BoxN.lt {W : World} {B : Nat} {t : TypeId} {v : Array Value} (h : BoxN W B t v) : B < W.heap.size := (Array.getElem?_eq_some_iff.1 h).1
theorem BoxN.cell {W : World} {B : Nat} {t : TypeId} {v : Array Value} (h : BoxN W B t v) (j : Nat) : W.cell? ⟨B, j, none⟩ = v[j]? := by simp [World.cell?, show W.heap[B]? = _ from h]
theorem BoxN.kept {W W' : World} {row : Option Nat} {B : Nat} {t : TypeId} {v : Array Value} (h : BoxN W B t v) (hg : W.grownBy W' row) (hne : some B ≠ row) : BoxN W' B t v := (hg.block B h.lt hne).trans h
theorem BoxN.alloc {W : World} {B : Nat} {t : TypeId} {v : Array Value} (h : BoxN W B t v) (o : Obj) : BoxN (W.alloc o) B t v := h.kept (World.grownBy_alloc W o none) (by simp)
theorem BoxN.new (W : World) (t : TypeId) (v : Array Value) : BoxN (W.alloc (.cells v t)) W.heap.size t v := World.alloc_heap_new W _
theorem boxN_own {β : Type} (B : Nat) (t : TypeId) (f : β → Array Value) : Own (fun s W => BoxN W B t (f s)) := fun s X Y row hs hg hrow =>
  hs.kept hg (fun e' => by obtain ⟨o, ho, hc⟩ := hrow B e'.symm; rw [show X.heap[B]? = _ from hs] at ho; cases ho; cases hc)
theorem dkUp_all (zs : List (Int × ByteArray)) : (dkUp zs zs.length).map (·.2) = zs.reverse := by
  apply List.ext_getElem
  · simp [dkUp]
  · intro i h1 h2
    simp [dkUp] at h1 ⊢
    rw [List.getElem?_eq_getElem (by omega)]; rfl
theorem dkUp_prefix (zs : List (Int × ByteArray)) (k : Nat) (hk : k ≤ zs.length) : ∃ rest, (dkUp zs k).map (·.2) ++ rest = zs.reverse := by
  refine ⟨zs.reverse.drop k, ?_⟩
  have : (dkUp zs k).map (·.2) = zs.reverse.take k := by
    rw [← dkUp_all, ← List.map_take]
    congr 1
    unfold dkUp
    rw [← List.map_take, List.take_range, Nat.min_eq_left hk]
  rw [this, List.take_append_drop]
def dkLast (pre : List DkE) : ByteArray := (pre.getLast?.getD (0, (0, ⟨#[]⟩))).2.2
theorem dkLast_snoc (pre : List DkE) (x : DkE) : dkLast (pre ++ [x]) = x.2.2 := by simp [dkLast]
set_option maxRecDepth 100000 in
set_option maxHeartbeats 4000000 in
theorem dk_read (F : Fence) (n : Nat) (h3 : F.fn 78) (h4 : F.fn 90) (h5 : F.fn 93) (hro : F.round = none) (hn : 6 ≤ n) (bv pv : Value) (fu k : Int) (off : Bool) (bl : List ByteArray) (zs : List (Int × ByteArray)) (hreach : zs.length * 24 ≤ 140737488351232) (w : World) (r : ByteArray) (hr : dkFind bl zs k = some r)
    (hP : DkIs w.heap.size w pv zs) (hps : ∃ a len cap, pv = .slice a len cap)
    (hBl : ∀ i x, bl[i]? = some x → ∃ b o c, bv = .slice (some ⟨b, o, none⟩) bl.length c ∧ b < w.heap.size ∧ w.cell? ⟨b, o + i, none⟩ = some (.string x)) :
    CallsIn F n Try.prog 78 #[.agg #[bv, pv, .int .i64 fu, .bool off], .int .i64 k] w fun e W' => e = .returned (.string r) ∧ Below w.heap.size w W' := by
  have h1 : 1 ≤ n := by omega
  obtain ⟨pa, plen, pcap, rfl⟩ := hps
  refine callsIn_of_wp_marks Try.func78 rfl h3 ?_ hro
  simp only [Try.ntmps78, List.size_toArray, List.length_cons, List.length_nil, Nat.reduceAdd, Nat.reduceSub, Array.replicate_succ, Array.replicate_zero, List.push_toArray, List.append_toArray, List.nil_append, List.cons_append]
  gi_wp2_with (gi_at_call 90; refine (dk_back F (n - 1) h4 hro _ _ _ _).mono ?_; rintro e w' ⟨rfl, rfl⟩)
  have bD := (((BoxN.new w 36 #[bv, Value.slice pa plen pcap, Value.int .i64 fu, Value.bool off]).alloc (.cells #[.int .i64 k] 2)).alloc (.cells #[.string ⟨#[]⟩] 9)).alloc (.cells #[.slice pa plen pcap] 34)
  have bK := ((Boxed.new (w.alloc (.cells #[bv, Value.slice pa plen pcap, Value.int .i64 fu, Value.bool off] 36)) 2 (.int .i64 k)).alloc (.cells #[.string ⟨#[]⟩] 9)).alloc (.cells #[.slice pa plen pcap] 34)
  have bR := (Boxed.new ((w.alloc (.cells #[bv, Value.slice pa plen pcap, Value.int .i64 fu, Value.bool off] 36)).alloc (.cells #[.int .i64 k] 2)) 9 (.string ⟨#[]⟩)).alloc (.cells #[.slice pa plen pcap] 34)
  have bA := Boxed.new (((w.alloc (.cells #[bv, Value.slice pa plen pcap, Value.int .i64 fu, Value.bool off] 36)).alloc (.cells #[.int .i64 k] 2)).alloc (.cells #[.string ⟨#[]⟩] 9)) 34 (.slice pa plen pcap)
  simp only [World.size_alloc] at bK bR bA
  have hB0 : Below w.heap.size w ((((w.alloc (.cells #[bv, Value.slice pa plen pcap, Value.int .i64 fu, Value.bool off] 36)).alloc (.cells #[.int .i64 k] 2)).alloc (.cells #[.string ⟨#[]⟩] 9)).alloc (.cells #[.slice pa plen pcap] 34)) := ((((Below.refl _ w).alloc (Nat.le_refl _) _).alloc (by simp) _).alloc (by simp; omega) _).alloc (by simp; omega) _
  have hsz : ((((w.alloc (.cells #[bv, Value.slice pa plen pcap, Value.int .i64 fu, Value.bool off] 36)).alloc (.cells #[.int .i64 k] 2)).alloc (.cells #[.string ⟨#[]⟩] 9)).alloc (.cells #[.slice pa plen pcap] 34)).heap.size = w.heap.size + 4 := by simp
  obtain ⟨W0, hW0⟩ : ∃ W0, ((((w.alloc (.cells #[bv, Value.slice pa plen pcap, Value.int .i64 fu, Value.bool off] 36)).alloc (.cells #[.int .i64 k] 2)).alloc (.cells #[.string ⟨#[]⟩] 9)).alloc (.cells #[.slice pa plen pcap] 34)) = W0 := ⟨_, rfl⟩
  rw [hW0] at bD bK bR bA hB0 hsz ⊢
  clear hW0
  refine wpIn_rangeFunc_ownH hro h1 (gf := 93) (lb := #[.pointer (some ⟨w.heap.size + 1 + 1 + 1, 0, none⟩)]) rfl h5 (enters_of Try.func93 (by kernel_rfl) rfl)
    (dk_stops F (n - 1) h5 hro (by omega) (w.heap.size + 1 + 1 + 1) W0.heap.size _ zs hreach W0 (by omega) (Nat.le_refl _) bA.cell (DkIs.up (by omega) (DkIs.below hB0 (Nat.le_refl _) hP))) belowK_t (belowK_b (by omega)) (Below.refl _ _) (fun _ => rfl)
    (fun pre W => (((((∀ x ∈ pre, (x.2.1 == k) = false) ∧ BoxN W w.heap.size 36 #[bv, Value.slice pa plen pcap, Value.int .i64 fu, Value.bool off]) ∧ Boxed W (w.heap.size + 1) 2 (.int .i64 k)) ∧ Boxed W (w.heap.size + 1 + 1) 9 (.string ⟨#[]⟩)) ∧ Below w.heap.size w W) ∧ Below W0.heap.size W0 W)
    (fun c pre W => ((c = .ret ∧ ∃ pre0 x, pre = pre0 ++ [x] ∧ (x.2.1 == k) = true ∧ ∀ y ∈ pre0, (y.2.1 == k) = false) ∧ Boxed W (w.heap.size + 1 + 1) 9 (.string (dkLast pre))) ∧ Below w.heap.size w W)
    (OwnFrom.and (OwnFrom.and (OwnFrom.and (OwnFrom.and (OwnFrom.and (ownFrom_pure _ _) (Own.from (boxN_own _ _ _) _)) (Own.from (boxed_own _ _ _) _)) (Own.from (boxed_own _ _ _) _)) (ownFrom_below (Nat.le_refl _) (by omega))) (ownFrom_below (Nat.le_refl _) (Nat.le_refl _)))
    (fun c => OwnFrom.and (OwnFrom.and (ownFrom_pure _ _) (Own.from (boxed_own _ _ _) _)) (ownFrom_below (Nat.le_refl _) (by omega)))
    ⟨⟨⟨⟨⟨by simp, bD⟩, bK⟩, bR⟩, hB0⟩, Below.refl _ _⟩
    (fun x a' W => ∃ Bx, W0.heap.size ≤ Bx ∧ BoxN W Bx 101 #[.int .i64 x.2.1, .string x.2.2] ∧ a' = { tmps := #[.agg #[bv, .slice pa plen pcap, .int .i64 fu, .bool off], .int .i64 k, .pointer (some ⟨w.heap.size, 0, none⟩), .pointer (some ⟨w.heap.size + 1, 0, none⟩), .pointer (some ⟨w.heap.size + 1 + 1, 0, none⟩), undef, .pointer (some ⟨Bx, 0, none⟩), .pointer (some ⟨w.heap.size, 1, none⟩), .slice pa plen pcap, .func (.func 93) #[] #[.pointer (some ⟨w.heap.size + 1 + 1 + 1, 0, none⟩)], .int .i64 (x.1 : Int), .agg #[.int .i64 x.2.1, .string x.2.2], undef, undef, undef, undef, undef, undef, undef, undef, undef, undef, undef], defers := [] })
    (fun x a' _ X Y row hs hg hr => by obtain ⟨Bx, e1, e2, e3⟩ := hs; exact ⟨Bx, e1, boxN_own Bx 101 (fun (_ : Unit) => #[Value.int .i64 x.2.1, .string x.2.2]) () X Y row e2 hg (fun r e => (hr r e).2), e3⟩)
    ?assign ?body ?done ?stop
  case assign =>
    rintro l pre x W K ⟨⟨⟨⟨⟨hp, bD1⟩, bK1⟩, bR1⟩, hB1⟩, hB2⟩ hK
    gi_wp2
    exact hK _ _ ((KeepsOthers.alloc _ _).from _) ((Below.refl _ W).alloc hB2.size _) ⟨⟨⟨⟨⟨hp, bD1.alloc _⟩, bK1.alloc _⟩, bR1.alloc _⟩, hB1.alloc hB1.size _⟩, hB2.alloc hB2.size _⟩ ⟨W.heap.size, hB2.size, BoxN.new W _ _, rfl⟩
  case body =>
    rintro l pre x a' W hl ⟨rr, hrr⟩ ⟨⟨⟨⟨⟨hp, bD1⟩, bK1⟩, bR1⟩, hB1⟩, hB2⟩ ⟨Bx, hBx, bX, rfl⟩ hlt
    have cK := bK1.cell
    have cR := bR1.cell
    have fR := bR1.frozen
    have cX0 : W.cell? ⟨Bx, 0, none⟩ = some (.int .i64 x.2.1) := bX.cell 0
    have cX1 : W.cell? ⟨Bx, 1, none⟩ = some (.string x.2.2) := bX.cell 1
    gi_wp2
    · rename_i hxk
      exact ⟨(KeepsOthers.setCell _ _ _).from _, ⟨⟨rfl, pre, x, rfl, hxk, hp⟩, by rw [dkLast_snoc]; exact bR1.set _⟩, hB1.setCell (p := ⟨w.heap.size + 1 + 1, 0, none⟩) (by simp; omega) _⟩
    · rename_i hxk
      refine ⟨KeepsFrom.refl _ _, Below.refl _ _, ⟨⟨⟨⟨fun z hz => ?_, bD1⟩, bK1⟩, bR1⟩, hB1⟩, hB2⟩
      rcases List.mem_append.1 hz with hz | hz
      · exact hp z hz
      · rw [List.mem_singleton.1 hz]; simpa using hxk
  case done =>
    rintro D ys W hD rfl ⟨⟨⟨⟨⟨hp, bD1⟩, bK1⟩, bR1⟩, hB1⟩, hB2⟩ hK
    have cK := bK1.cell
    have cR := bR1.cell
    have fR := bR1.frozen
    have hnone : zs.reverse.find? (fun p => p.1 == k) = none := by
      rw [← dkUp_all, List.find?_eq_none]
      intro p hp'
      obtain ⟨x, hx, rfl⟩ := List.mem_map.1 hp'
      simpa using hp x hx
    unfold dkFind at hr
    rw [hnone] at hr
    dsimp only at hr
    have hk0 : 0 ≤ k := by
      unfold idx at hr
      split at hr
      · assumption
      · cases hr
    obtain ⟨kn, rfl⟩ : ∃ kn : Nat, k = kn := ⟨k.toNat, by omega⟩
    unfold idx at hr
    rw [if_pos hk0, Int.toNat_natCast] at hr
    obtain ⟨b', o', c', rfl, hb', hcell⟩ := hBl kn r hr
    have hkl : kn < bl.length := (List.getElem?_eq_some_iff.1 hr).1
    have hcW : W.cell? ⟨b', o' + kn, none⟩ = some (.string r) := (hB1.cell (p := ⟨b', o' + kn, none⟩) hb').trans hcell
    have cD0 : W.cell? ⟨w.heap.size, 0, none⟩ = some (.slice (some ⟨b', o', none⟩) bl.length c') := bD1.cell 0
    gi_wp2
    have hK' := (KeepsOthers.setCell W ⟨w.heap.size + 1 + 1, 0, none⟩ (.string r)).same D _ hK rfl
    refine ⟨by simp, .inl ⟨_, _, rfl, run_takeDeferred hK', ?_⟩⟩
    have hc5 := cell_kept (bR1.set (.string r)).cell (grownBy_putObj' _ D (.deferred none)) (fun r e => by cases e; exact ⟨_, hK', rfl⟩)
    refine ⟨.string r, ?_, rfl, (hB1.setCell (p := ⟨w.heap.size + 1 + 1, 0, none⟩) (by simp; omega) _).trans (belowK_b (w := w) (Nat.le_refl _) _ D _ _ (by omega) hK' rfl rfl)⟩
    simp [results, Try.f78, go_sem, hc5]
  case stop =>
    rintro D c pre W hD ⟨kk, hkk, hpre⟩ ⟨⟨⟨rfl, pre0, x, rfl, hx, hall⟩, bR1⟩, hB1⟩ hK
    have hsome : zs.reverse.find? (fun p => p.1 == k) = some x.2 := by
      obtain ⟨rest, hrest⟩ := dkUp_prefix zs kk hkk
      rw [← hrest, ← hpre, List.map_append, List.append_assoc, List.find?_append]
      have : (pre0.map (·.2)).find? (fun p => p.1 == k) = none := by
        rw [List.find?_eq_none]
        intro p hp'
        obtain ⟨y, hy, rfl⟩ := List.mem_map.1 hp'
        simpa using hall y hy
      rw [this]
      simp [hx]
    unfold dkFind at hr
    rw [hsome] at hr
    cases hr
    rw [dkLast_snoc] at bR1
    gi_wp2
    refine ⟨by simp, .inl ⟨_, _, rfl, run_takeDeferred hK, ?_⟩⟩
    have hc5 := cell_kept bR1.cell (grownBy_putObj' _ D (.deferred none)) (fun r e => by cases e; exact ⟨_, hK, rfl⟩)
    refine ⟨.string x.2.2, ?_, rfl, hB1.trans (belowK_b (w := w) (Nat.le_refl _) W D _ _ (by omega) hK rfl rfl)⟩
    simp [results, Try.f78, go_sem, hc5]
end
theorem dk_str {Fz : Nat → Prop} {w : World} (hF : ∀ k, Fz k → k < w.heap.size) {l : List ByteArray} {v : Value} (h : TRep S Fz w (.arr 9 l) v) :
    ∃ a cap, v = .slice a l.length cap ∧ ∀ (i : Nat) x, l[i]? = some x → ∃ b o, a = some ⟨b, o, none⟩ ∧ b < w.heap.size ∧ w.cell? ⟨b, o + i, none⟩ = some (.string x) := by
  cases h with
  | arr e l a cap vals hcap hn hf hv ht =>
    refine ⟨a, cap, rfl, fun i x hx => ?_⟩
    have hne : l ≠ [] := by rintro rfl; simp at hx
    cases a with
    | none => exact absurd (hn rfl) hne
    | some ad =>
      obtain ⟨hs, hb⟩ := hf ad rfl hne
      have h1 := hv i x 0 (.str x) hx rfl ad rfl
      have t := ht i x 0 (.str x) hx rfl
      have e : vals i 0 = .string x := by
        generalize vals i 0 = v at t
        cases t; rfl
      obtain ⟨b, o, s⟩ := ad
      dsimp only at hs hb h1
      subst hs
      rw [e] at h1
      have hsz : S.sz 9 = 1 := rfl
      rw [hsz] at h1
      exact ⟨b, o, rfl, hF _ hb, by simpa using h1⟩
theorem dk_put {Fz : Nat → Prop} {w : World} (hF : ∀ k, Fz k → k < w.heap.size) {l : List (Int × ByteArray)} {v : Value} (h : TRep S Fz w (.arr 101 l) v) : DkIs w.heap.size w v l ∧ ∃ a len cap, v = .slice a len cap := by
  cases h with
  | arr e l a cap vals hcap hn hf hv ht =>
    refine ⟨?_, _, _, _, rfl⟩
    by_cases hne : l = []
    · subst hne; exact .inl ⟨rfl, _, _, rfl⟩
    · cases a with
      | none => exact absurd (hn rfl) hne
      | some ad =>
        obtain ⟨hs, hb⟩ := hf ad rfl hne
        obtain ⟨b, o, s⟩ := ad
        dsimp only at hs hb
        subst hs
        have hsz : S.sz 101 = 2 := rfl
        refine .inr ⟨b, o, cap, rfl, hF _ hb, fun j hj => ?_⟩
        have hx : l[j]? = some l[j] := List.getElem?_eq_getElem hj
        have h0 := hv j _ 0 (.int .i64 l[j].1) hx rfl _ rfl
        have h1 := hv j _ 1 (.str l[j].2) hx rfl _ rfl
        have t0 := ht j _ 0 (.int .i64 l[j].1) hx rfl
        have t1 := ht j _ 1 (.str l[j].2) hx rfl
        have e0 : vals j 0 = .int .i64 l[j].1 := by
          generalize vals j 0 = v at t0
          cases t0; rfl
        have e1 : vals j 1 = .string l[j].2 := by
          generalize vals j 1 = v at t1
          cases t1; rfl
        rw [e0, hsz] at h0
        rw [e1, hsz] at h1
        rw [hx]
        exact ⟨by simpa using h0, by simpa [Nat.add_assoc] using h1⟩
theorem dk_ok {m : Nat} {A : FnAnn} (hA : E.ann 78 m = some A) (hX : E.ext 78 m ≠ none) (hl : A.inL.slots.length = 2) {d : TL E.S.K (jobT E.ann ⟨78, m, none⟩)} {r : TL E.S.K (outT E.ann 78 m)} {bl : List ByteArray} {zs : List (Int × ByteArray)} {fu k : Int} {off : Bool} {rr : ByteArray}
    (hin : buildAll (fun i => (i, 0)) A.inL (encL (jobT E.ann ⟨78, m, none⟩) d) = some ([(0, .a [.arr 9 bl, .arr 101 zs, .int .i64 fu, .bool off]), (1, .c (.int .i64 k))], [])) (hout : buildAll (fun i => (i, 0)) A.outL (encL (outT E.ann 78 m) r) = some ([(0, .c (.str rr))], [])) (h : dkRead bl zs k = some rr) : CallOk Try.prog E 78 m d r := by
  refine flat_ok2 hA hX hin hout (fun Fz w vs hz hF hs => ?_)
  unfold dkRead at h
  split at h
  · next hreach =>
    obtain ⟨us, e0, h0⟩ := hs 0 _ rfl
    rw [hl] at hz
    have e1 : vs.getD 1 undef = .int .i64 k := by
      have h1' : TRep S Fz w (.int .i64 k) (vs.getD 1 undef) := hs 1 _ rfl
      generalize vs.getD 1 undef = v at h1'
      cases h1'; rfl
    rw [arr2 hz e0 e1]
    match us, h0 with
    | [u0, u1, u2, u3], .cons c0 (.cons c1 (.cons c2 (.cons c3 .nil))) =>
      obtain ⟨a, cap, rfl, hb⟩ := dk_str (w := w) hF c0
      obtain ⟨hP, hps⟩ := dk_put (w := w) hF c1
      have e2 : u2 = .int .i64 fu := by
        have h1' : TRep S Fz w (.int .i64 fu) u2 := c2
        cases h1'; rfl
      have e3 : u3 = .bool off := by
        have h1' : TRep S Fz w (.bool off) u3 := c3
        cases h1'; rfl
      subst e2 e3
      refine (callsIn_wide (n := 7)).1 ?_
      refine (dk_read _ _ trivial trivial trivial rfl (by omega) (.slice a bl.length cap) u1 fu k off bl zs hreach w rr h hP hps (fun i x hx => ?_)).mono ?_
      · obtain ⟨b, o, rfl, h2, h3⟩ := hb i x hx
        exact ⟨b, o, cap, rfl, h2, h3⟩
      · rintro e w' ⟨rfl, hB⟩
        exact ⟨_, rfl, hB, TRep.str _⟩
  · cases h

theorem ext78_ok : ∀ (d : TL E.S.K (jobT E.ann ⟨78, 0, none⟩)) r, (fun d : List ByteArray × List (Int × ByteArray) × Int × Bool × Int => (dkRead (d.1) (d.2.1) (d.2.2.2.2) : Option (ByteArray))) d = some r → CallOk Try.prog E 78 0 d r := by
  intro (d : List ByteArray × List (Int × ByteArray) × Int × Bool × Int) (r : ByteArray) h
  exact dk_ok rfl (fun h => by cases h) rfl rfl rfl h
theorem exts_ok : RowsOk Try.prog E X := ⟨ext78_ok, trivial⟩
theorem oks : OrcOk Try.prog E (Sem E) := Sem_ok env_ok (drawn_ok env_ok) (extOk_of rfl exts_ok)
noncomputable def laws_FnExactRootOf (aP_Disk_Blocks : List ByteArray) (aP_Disk_Pending : List (Int × ByteArray)) (aP_Disk_Fuse : Int) (aP_Disk_Off : Bool) (aP_Super_Blocks : Int) (aP_Super_Log : Int) (aP_Super_Seq : Int) (aP_Super_Turn : Int) (aP_Seq : Int) (aP_At : Int) (aP_Logged : List (Int × ByteArray)) (aP_Dirty : List (Int × ByteArray)) : Option (Bool) := Sem E ⟨5, 0, none⟩ (aP_Disk_Blocks, aP_Disk_Pending, aP_Disk_Fuse, aP_Disk_Off, aP_Super_Blocks, aP_Super_Log, aP_Super_Seq, aP_Super_Turn, aP_Seq, aP_At, aP_Logged, aP_Dirty)
noncomputable def laws_szPager (a_Disk_Blocks : List ByteArray) (a_Disk_Pending : List (Int × ByteArray)) (a_Disk_Fuse : Int) (a_Disk_Off : Bool) (a_Super_Blocks : Int) (a_Super_Log : Int) (a_Super_Seq : Int) (a_Super_Turn : Int) (a_Seq : Int) (a_At : Int) (a_Logged : List (Int × ByteArray)) (a_Dirty : List (Int × ByteArray)) (left : Int) : Option (Int) := Sem E ⟨6, 0, none⟩ (a_Disk_Blocks, a_Disk_Pending, a_Disk_Fuse, a_Disk_Off, a_Super_Blocks, a_Super_Log, a_Super_Seq, a_Super_Turn, a_Seq, a_At, a_Logged, a_Dirty, left)
noncomputable def laws_szDisk (a_Blocks : List ByteArray) (a_Pending : List (Int × ByteArray)) (a_Fuse : Int) (a_Off : Bool) (left : Int) : Option (Int) := Sem E ⟨15, 0, none⟩ (a_Blocks, a_Pending, a_Fuse, a_Off, left)
noncomputable def laws_szStringS (a : List ByteArray) (left : Int) : Option (Int) := Sem E ⟨35, 0, none⟩ (a, left)
noncomputable def laws_szStringS_l5 (a : List ByteArray) (left : Int) (i : Int) : Option (Int) := Sem E ⟨35, 0, some 5⟩ (a, left, i)
noncomputable def laws_szPutS (a : List (Int × ByteArray)) (left : Int) : Option (Int) := Sem E ⟨36, 0, none⟩ (a, left)
noncomputable def laws_szPutS_l5 (a : List (Int × ByteArray)) (left : Int) (i : Int) : Option (Int) := Sem E ⟨36, 0, some 5⟩ (a, left, i)
noncomputable def laws_szPut (a_Block : Int) (a_Data : ByteArray) (left : Int) : Option (Int) := Sem E ⟨65, 0, none⟩ (a_Block, a_Data, left)
noncomputable def laws_szPageS (a : List (Int × ByteArray)) (left : Int) : Option (Int) := Sem E ⟨16, 0, none⟩ (a, left)
noncomputable def laws_szPageS_l5 (a : List (Int × ByteArray)) (left : Int) (i : Int) : Option (Int) := Sem E ⟨16, 0, some 5⟩ (a, left, i)
noncomputable def laws_szPage (a_Block : Int) (a_Data : ByteArray) (left : Int) : Option (Int) := Sem E ⟨37, 0, none⟩ (a_Block, a_Data, left)
noncomputable def laws_toPager (a_Disk_Blocks : List ByteArray) (a_Disk_Pending : List (Int × ByteArray)) (a_Disk_Fuse : Int) (a_Disk_Off : Bool) (a_Super_Blocks : Int) (a_Super_Log : Int) (a_Super_Seq : Int) (a_Super_Turn : Int) (a_Seq : Int) (a_At : Int) (a_Logged : List (Int × ByteArray)) (a_Dirty : List (Int × ByteArray)) : Option (Int × Bool × Int × Int × Int × Int × Int × Int × List ByteArray × List (Int × ByteArray) × List (Int × ByteArray) × List (Int × ByteArray)) := Sem E ⟨8, 0, none⟩ (a_Disk_Blocks, a_Disk_Pending, a_Disk_Fuse, a_Disk_Off, a_Super_Blocks, a_Super_Log, a_Super_Seq, a_Super_Turn, a_Seq, a_At, a_Logged, a_Dirty)
noncomputable def laws_toDisk (a_Blocks : List ByteArray) (a_Pending : List (Int × ByteArray)) (a_Fuse : Int) (a_Off : Bool) : Option (Int × Bool × List ByteArray × List (Int × ByteArray)) := Sem E ⟨20, 0, none⟩ (a_Blocks, a_Pending, a_Fuse, a_Off)
noncomputable def laws_toStringS (a : List ByteArray) : Option (List ByteArray) := Sem E ⟨47, 0, none⟩ a
noncomputable def laws_toStringS_l3 (a : List ByteArray) (i : Int) (out : List ByteArray) : Option (List ByteArray) := Sem E ⟨47, 0, some 3⟩ (a, i, out)
noncomputable def laws_toPutS (a : List (Int × ByteArray)) : Option (List (Int × ByteArray)) := Sem E ⟨48, 0, none⟩ a
noncomputable def laws_toPutS_l3 (a : List (Int × ByteArray)) (i : Int) (out : List (Int × ByteArray)) : Option (List (Int × ByteArray)) := Sem E ⟨48, 0, some 3⟩ (a, i, out)
noncomputable def laws_toPut (a_Block : Int) (a_Data : ByteArray) : Option (Int × ByteArray) := Sem E ⟨67, 0, none⟩ (a_Block, a_Data)
noncomputable def laws_toSuper (a_Blocks : Int) (a_Log : Int) (a_Seq : Int) (a_Turn : Int) : Option (Int × Int × Int × Int) := Sem E ⟨21, 0, none⟩ (a_Blocks, a_Log, a_Seq, a_Turn)
noncomputable def laws_toPageS (a : List (Int × ByteArray)) : Option (List (Int × ByteArray)) := Sem E ⟨22, 0, none⟩ a
noncomputable def laws_toPageS_l3 (a : List (Int × ByteArray)) (i : Int) (out : List (Int × ByteArray)) : Option (List (Int × ByteArray)) := Sem E ⟨22, 0, some 3⟩ (a, i, out)
noncomputable def laws_toPage (a_Block : Int) (a_Data : ByteArray) : Option (Int × ByteArray) := Sem E ⟨49, 0, none⟩ (a_Block, a_Data)
noncomputable def spec_RootOf (p_Disk_Blocks : List ByteArray) (p_Disk_Pending : List (Int × ByteArray)) (p_Disk_Fuse : Int) (p_Disk_Off : Bool) (p_Super_Blocks : Int) (p_Super_Log : Int) (p_Super_Seq : Int) (p_Super_Turn : Int) (p_Seq : Int) (p_At : Int) (p_Logged : List (Int × ByteArray)) (p_Dirty : List (Int × ByteArray)) : Option (Int × Int) := Sem E ⟨13, 0, none⟩ (p_Disk_Blocks, p_Disk_Pending, p_Disk_Fuse, p_Disk_Off, p_Super_Blocks, p_Super_Log, p_Super_Seq, p_Super_Turn, p_Seq, p_At, p_Logged, p_Dirty)
noncomputable def spec_l12Ok (p_Disk_Blocks : List ByteArray) (p_Disk_Pending : List (Int × ByteArray)) (p_Disk_Fuse : Int) (p_Disk_Off : Bool) (p_Super_Blocks : Int) (p_Super_Log : Int) (p_Super_Seq : Int) (p_Super_Turn : Int) (p_Seq : Int) (p_At : Int) (p_Logged : List (Int × ByteArray)) (p_Dirty : List (Int × ByteArray)) : Option (Bool) := Sem E ⟨17, 0, none⟩ (p_Disk_Blocks, p_Disk_Pending, p_Disk_Fuse, p_Disk_Off, p_Super_Blocks, p_Super_Log, p_Super_Seq, p_Super_Turn, p_Seq, p_At, p_Logged, p_Dirty)
noncomputable def spec_l09Ok (d_Disk_Blocks : List ByteArray) (d_Disk_Pending : List (Int × ByteArray)) (d_Disk_Fuse : Int) (d_Disk_Off : Bool) (d_Super_Blocks : Int) (d_Super_Log : Int) (d_Super_Seq : Int) (d_Super_Turn : Int) (d_Seq : Int) (d_At : Int) (d_Logged : List (Int × ByteArray)) (d_Dirty : List (Int × ByteArray)) : Option (Bool) := Sem E ⟨38, 0, none⟩ (d_Disk_Blocks, d_Disk_Pending, d_Disk_Fuse, d_Disk_Off, d_Super_Blocks, d_Super_Log, d_Super_Seq, d_Super_Turn, d_Seq, d_At, d_Logged, d_Dirty)
noncomputable def spec_l09Ok_l5 (n : Int) (i : Int) (d_Disk_Blocks : List ByteArray) (d_Disk_Pending : List (Int × ByteArray)) (d_Disk_Fuse : Int) (d_Disk_Off : Bool) (d_Super_Blocks : Int) (d_Super_Log : Int) (d_Super_Seq : Int) (d_Super_Turn : Int) (d_Seq : Int) (d_At : Int) (d_Logged : List (Int × ByteArray)) (d_Dirty : List (Int × ByteArray)) : Option (Bool) := Sem E ⟨38, 0, some 5⟩ (n, i, d_Disk_Blocks, d_Disk_Pending, d_Disk_Fuse, d_Disk_Off, d_Super_Blocks, d_Super_Log, d_Super_Seq, d_Super_Turn, d_Seq, d_At, d_Logged, d_Dirty)
noncomputable def spec_l09Ok_l10 (n : Int) (i : Int) (d_Disk_Blocks : List ByteArray) (d_Disk_Pending : List (Int × ByteArray)) (d_Disk_Fuse : Int) (d_Disk_Off : Bool) (d_Super_Blocks : Int) (d_Super_Log : Int) (d_Super_Seq : Int) (d_Super_Turn : Int) (d_Seq : Int) (d_At : Int) (d_Logged : List (Int × ByteArray)) (d_Dirty : List (Int × ByteArray)) : Option (Bool) := Sem E ⟨38, 0, some 10⟩ (n, i, d_Disk_Blocks, d_Disk_Pending, d_Disk_Fuse, d_Disk_Off, d_Super_Blocks, d_Super_Log, d_Super_Seq, d_Super_Turn, d_Seq, d_At, d_Logged, d_Dirty)
noncomputable def spec_l00In (n : Int) (low : Int) (high : Int) : Option (Bool) := Sem E ⟨40, 0, none⟩ (n, low, high)
noncomputable def spec_ValidSuper (s_Blocks : Int) (s_Log : Int) (s_Seq : Int) (s_Turn : Int) : Option (Bool) := Sem E ⟨39, 0, none⟩ (s_Blocks, s_Log, s_Seq, s_Turn)
noncomputable def spec_l11Pages (list : List (Int × ByteArray)) : Option (Bool) := Sem E ⟨41, 0, none⟩ list
noncomputable def spec_l11Pages_l4 (list : List (Int × ByteArray)) (i : Int) : Option (Bool) := Sem E ⟨41, 0, some 4⟩ (list, i)
noncomputable def spec_l11Within (s_Blocks : Int) (s_Log : Int) (s_Seq : Int) (s_Turn : Int) (list : List (Int × ByteArray)) : Option (Bool) := Sem E ⟨42, 0, none⟩ (s_Blocks, s_Log, s_Seq, s_Turn, list)
noncomputable def spec_l11Within_l2 (list : List (Int × ByteArray)) (i : Int) (s_Blocks : Int) (s_Log : Int) (s_Seq : Int) (s_Turn : Int) : Option (Bool) := Sem E ⟨42, 0, some 2⟩ (list, i, s_Blocks, s_Log, s_Seq, s_Turn)
noncomputable def spec_l10Area (s_Blocks : Int) (s_Log : Int) (s_Seq : Int) (s_Turn : Int) : Option (Int) := Sem E ⟨44, 0, none⟩ (s_Blocks, s_Log, s_Seq, s_Turn)
noncomputable def spec_l12Fits (s_Blocks : Int) (s_Log : Int) (s_Seq : Int) (s_Turn : Int) (pages : Int) : Option (Bool) := Sem E ⟨43, 0, none⟩ (s_Blocks, s_Log, s_Seq, s_Turn, pages)
noncomputable def spec_l11Blocks (pages : Int) : Option (Int) := Sem E ⟨66, 0, none⟩ pages
noncomputable def spec_l11Table (pages : Int) : Option (Int) := Sem E ⟨81, 0, none⟩ pages
noncomputable def spec_l13Root (p_Disk_Blocks : List ByteArray) (p_Disk_Pending : List (Int × ByteArray)) (p_Disk_Fuse : Int) (p_Disk_Off : Bool) (p_Super_Blocks : Int) (p_Super_Log : Int) (p_Super_Seq : Int) (p_Super_Turn : Int) (p_Seq : Int) (p_At : Int) (p_Logged : List (Int × ByteArray)) (p_Dirty : List (Int × ByteArray)) : Option (Int) := Sem E ⟨33, 0, none⟩ (p_Disk_Blocks, p_Disk_Pending, p_Disk_Fuse, p_Disk_Off, p_Super_Blocks, p_Super_Log, p_Super_Seq, p_Super_Turn, p_Seq, p_At, p_Logged, p_Dirty)
noncomputable def spec_l13Area (p_Disk_Blocks : List ByteArray) (p_Disk_Pending : List (Int × ByteArray)) (p_Disk_Fuse : Int) (p_Disk_Off : Bool) (p_Super_Blocks : Int) (p_Super_Log : Int) (p_Super_Seq : Int) (p_Super_Turn : Int) (p_Seq : Int) (p_At : Int) (p_Logged : List (Int × ByteArray)) (p_Dirty : List (Int × ByteArray)) : Option (ByteArray) := Sem E ⟨31, 0, none⟩ (p_Disk_Blocks, p_Disk_Pending, p_Disk_Fuse, p_Disk_Off, p_Super_Blocks, p_Super_Log, p_Super_Seq, p_Super_Turn, p_Seq, p_At, p_Logged, p_Dirty)
noncomputable def spec_l12Get (k : Int) (p_Disk_Blocks : List ByteArray) (p_Disk_Pending : List (Int × ByteArray)) (p_Disk_Fuse : Int) (p_Disk_Off : Bool) (p_Super_Blocks : Int) (p_Super_Log : Int) (p_Super_Seq : Int) (p_Super_Turn : Int) (p_Seq : Int) (p_At : Int) (p_Logged : List (Int × ByteArray)) (p_Dirty : List (Int × ByteArray)) : Option (ByteArray) := Sem E ⟨19, 0, none⟩ (k, p_Disk_Blocks, p_Disk_Pending, p_Disk_Fuse, p_Disk_Off, p_Super_Blocks, p_Super_Log, p_Super_Seq, p_Super_Turn, p_Seq, p_At, p_Logged, p_Dirty)
noncomputable def spec_l11Find (list : List (Int × ByteArray)) (block : Int) : Option (Int) := Sem E ⟨45, 0, none⟩ (list, block)
noncomputable def spec_l11Find_l2 (list : List (Int × ByteArray)) (block : Int) (i : Int) : Option (Int) := Sem E ⟨45, 0, some 2⟩ (list, block, i)
noncomputable def spec_l09Read (k : Int) (d_Disk_Blocks : List ByteArray) (d_Disk_Pending : List (Int × ByteArray)) (d_Disk_Fuse : Int) (d_Disk_Off : Bool) (d_Super_Blocks : Int) (d_Super_Log : Int) (d_Super_Seq : Int) (d_Super_Turn : Int) (d_Seq : Int) (d_At : Int) (d_Logged : List (Int × ByteArray)) (d_Dirty : List (Int × ByteArray)) : Option (ByteArray) := Sem E ⟨46, 0, none⟩ (k, d_Disk_Blocks, d_Disk_Pending, d_Disk_Fuse, d_Disk_Off, d_Super_Blocks, d_Super_Log, d_Super_Seq, d_Super_Turn, d_Seq, d_At, d_Logged, d_Dirty)
noncomputable def spec_l09Read_l2 (k : Int) (i : Int) (d_Disk_Blocks : List ByteArray) (d_Disk_Pending : List (Int × ByteArray)) (d_Disk_Fuse : Int) (d_Disk_Off : Bool) (d_Super_Blocks : Int) (d_Super_Log : Int) (d_Super_Seq : Int) (d_Super_Turn : Int) (d_Seq : Int) (d_At : Int) (d_Logged : List (Int × ByteArray)) (d_Dirty : List (Int × ByteArray)) : Option (ByteArray) := Sem E ⟨46, 0, some 2⟩ (k, i, d_Disk_Blocks, d_Disk_Pending, d_Disk_Fuse, d_Disk_Off, d_Super_Blocks, d_Super_Log, d_Super_Seq, d_Super_Turn, d_Seq, d_At, d_Logged, d_Dirty)
noncomputable def spec_l01GetUint (s : ByteArray) (at_ : Int) (size : Int) : Option (Int × Bool) := Sem E ⟨63, 0, none⟩ (s, at_, size)
noncomputable def spec_l01GetUint_l5 (s : ByteArray) (at_ : Int) (n : Int) (k : Int) : Option (Int × Bool) := Sem E ⟨63, 0, some 5⟩ (s, at_, n, k)
noncomputable def spec_l01Within (s : ByteArray) (at_ : Int) (size : Int) : Option (Bool) := Sem E ⟨80, 0, none⟩ (s, at_, size)
noncomputable def impl_RootOf (p_Disk_Blocks : List ByteArray) (p_Disk_Pending : List (Int × ByteArray)) (p_Disk_Fuse : Int) (p_Disk_Off : Bool) (p_Super_Blocks : Int) (p_Super_Log : Int) (p_Super_Seq : Int) (p_Super_Turn : Int) (p_Seq : Int) (p_At : Int) (p_Logged : List (Int × ByteArray)) (p_Dirty : List (Int × ByteArray)) : Option (Int × Int) := Sem E ⟨14, 0, none⟩ (p_Disk_Blocks, p_Disk_Pending, p_Disk_Fuse, p_Disk_Off, p_Super_Blocks, p_Super_Log, p_Super_Seq, p_Super_Turn, p_Seq, p_At, p_Logged, p_Dirty)
noncomputable def impl_ValidPager (p_Disk_Blocks : List ByteArray) (p_Disk_Pending : List (Int × ByteArray)) (p_Disk_Fuse : Int) (p_Disk_Off : Bool) (p_Super_Blocks : Int) (p_Super_Log : Int) (p_Super_Seq : Int) (p_Super_Turn : Int) (p_Seq : Int) (p_At : Int) (p_Logged : List (Int × ByteArray)) (p_Dirty : List (Int × ByteArray)) : Option (Bool) := Sem E ⟨23, 0, none⟩ (p_Disk_Blocks, p_Disk_Pending, p_Disk_Fuse, p_Disk_Off, p_Super_Blocks, p_Super_Log, p_Super_Seq, p_Super_Turn, p_Seq, p_At, p_Logged, p_Dirty)
noncomputable def impl_superFits (d_Blocks : List ByteArray) (d_Pending : List (Int × ByteArray)) (d_Fuse : Int) (d_Off : Bool) (s_Blocks : Int) (s_Log : Int) (s_Seq : Int) (s_Turn : Int) : Option (Bool) := Sem E ⟨50, 0, none⟩ (d_Blocks, d_Pending, d_Fuse, d_Off, s_Blocks, s_Log, s_Seq, s_Turn)
noncomputable def impl_ValidDisk (d_Blocks : List ByteArray) (d_Pending : List (Int × ByteArray)) (d_Fuse : Int) (d_Off : Bool) : Option (Bool) := Sem E ⟨68, 0, none⟩ (d_Blocks, d_Pending, d_Fuse, d_Off)
noncomputable def impl_within (n : Int) (low : Int) (high : Int) : Option (Bool) := Sem E ⟨51, 0, none⟩ (n, low, high)
noncomputable def slices_ContainsFunc_sstring_string_d_ValidDisk_1 (s : List ByteArray) : Option (Bool) := Sem E ⟨82, 0, none⟩ s
noncomputable def slices_IndexFunc_sstring_string_d_ValidDisk_1 (s : List ByteArray) : Option (Int) := Sem E ⟨91, 0, none⟩ s
noncomputable def slices_IndexFunc_sstring_string_d_ValidDisk_1_l2 (s : List ByteArray) (t7 : Int) (t8 : Int) : Option (Int) := Sem E ⟨91, 0, some 2⟩ (s, t7, t8)
noncomputable def impl_ValidDisk_1 (b : ByteArray) : Option (Bool) := Sem E ⟨83, 0, none⟩ b
noncomputable def impl_isBlock (s : ByteArray) : Option (Bool) := Sem E ⟨70, 0, none⟩ s
noncomputable def slices_ContainsFunc_simpl_Put_impl_Put_d_ValidDisk_2 (s : List (Int × ByteArray)) (c0_Blocks : List ByteArray) (c0_Pending : List (Int × ByteArray)) (c0_Fuse : Int) (c0_Off : Bool) : Option (Bool) := Sem E ⟨84, 0, none⟩ (s, c0_Blocks, c0_Pending, c0_Fuse, c0_Off)
noncomputable def slices_IndexFunc_simpl_Put_impl_Put_d_ValidDisk_2 (s : List (Int × ByteArray)) (c0_Blocks : List ByteArray) (c0_Pending : List (Int × ByteArray)) (c0_Fuse : Int) (c0_Off : Bool) : Option (Int) := Sem E ⟨92, 0, none⟩ (s, c0_Blocks, c0_Pending, c0_Fuse, c0_Off)
noncomputable def slices_IndexFunc_simpl_Put_impl_Put_d_ValidDisk_2_l2 (s : List (Int × ByteArray)) (t7 : Int) (t8 : Int) (c0_Blocks : List ByteArray) (c0_Pending : List (Int × ByteArray)) (c0_Fuse : Int) (c0_Off : Bool) : Option (Int) := Sem E ⟨92, 0, some 2⟩ (s, t7, t8, c0_Blocks, c0_Pending, c0_Fuse, c0_Off)
noncomputable def impl_ValidDisk_2 (p_Block : Int) (p_Data : ByteArray) (t1_Blocks : List ByteArray) (t1_Pending : List (Int × ByteArray)) (t1_Fuse : Int) (t1_Off : Bool) : Option (Bool) := Sem E ⟨85, 0, none⟩ (p_Block, p_Data, t1_Blocks, t1_Pending, t1_Fuse, t1_Off)
noncomputable def impl_isIndex (i : Int) (many : Int) : Option (Bool) := Sem E ⟨86, 0, none⟩ (i, many)
noncomputable def impl_ValidSuper (s_Blocks : Int) (s_Log : Int) (s_Seq : Int) (s_Turn : Int) : Option (Bool) := Sem E ⟨69, 0, none⟩ (s_Blocks, s_Log, s_Seq, s_Turn)
noncomputable def impl_ValidPages (list : List (Int × ByteArray)) : Option (Bool) := Sem E ⟨52, 0, none⟩ list
noncomputable def impl_ValidPages_l2 (list : List (Int × ByteArray)) (t5 : List (Int × ByteArray)) (t6 : Int) (t7 : Int) : Option (Bool) := Sem E ⟨52, 0, some 2⟩ (list, t5, t6, t7)
noncomputable def impl_Super_inArea (s_Blocks : Int) (s_Log : Int) (s_Seq : Int) (s_Turn : Int) (list : List (Int × ByteArray)) : Option (Bool) := Sem E ⟨53, 0, none⟩ (s_Blocks, s_Log, s_Seq, s_Turn, list)
noncomputable def slices_ContainsFunc_simpl_Page_impl_Page_d_Super_inArea_1 (s : List (Int × ByteArray)) (c0_Blocks : Int) (c0_Log : Int) (c0_Seq : Int) (c0_Turn : Int) : Option (Bool) := Sem E ⟨71, 0, none⟩ (s, c0_Blocks, c0_Log, c0_Seq, c0_Turn)
noncomputable def slices_IndexFunc_simpl_Page_impl_Page_d_Super_inArea_1 (s : List (Int × ByteArray)) (c0_Blocks : Int) (c0_Log : Int) (c0_Seq : Int) (c0_Turn : Int) : Option (Int) := Sem E ⟨87, 0, none⟩ (s, c0_Blocks, c0_Log, c0_Seq, c0_Turn)
noncomputable def slices_IndexFunc_simpl_Page_impl_Page_d_Super_inArea_1_l2 (s : List (Int × ByteArray)) (t7 : Int) (t8 : Int) (c0_Blocks : Int) (c0_Log : Int) (c0_Seq : Int) (c0_Turn : Int) : Option (Int) := Sem E ⟨87, 0, some 2⟩ (s, t7, t8, c0_Blocks, c0_Log, c0_Seq, c0_Turn)
noncomputable def impl_Super_inArea_1 (p_Block : Int) (p_Data : ByteArray) (t1_Blocks : Int) (t1_Log : Int) (t1_Seq : Int) (t1_Turn : Int) : Option (Bool) := Sem E ⟨72, 0, none⟩ (p_Block, p_Data, t1_Blocks, t1_Log, t1_Seq, t1_Turn)
noncomputable def impl_AreaBlock (s_Blocks : Int) (s_Log : Int) (s_Seq : Int) (s_Turn : Int) : Option (Int) := Sem E ⟨73, 0, none⟩ (s_Blocks, s_Log, s_Seq, s_Turn)
noncomputable def impl_Super_fits (s_Blocks : Int) (s_Log : Int) (s_Seq : Int) (s_Turn : Int) (pages : Int) : Option (Bool) := Sem E ⟨54, 0, none⟩ (s_Blocks, s_Log, s_Seq, s_Turn, pages)
noncomputable def impl_RecordBlocks (pages : Int) : Option (Int) := Sem E ⟨74, 0, none⟩ pages
noncomputable def impl_tableBlocks (pages : Int) : Option (Int) := Sem E ⟨88, 0, none⟩ pages
noncomputable def impl_Pager_root (p_Disk_Blocks : List ByteArray) (p_Disk_Pending : List (Int × ByteArray)) (p_Disk_Fuse : Int) (p_Disk_Off : Bool) (p_Super_Blocks : Int) (p_Super_Log : Int) (p_Super_Seq : Int) (p_Super_Turn : Int) (p_Seq : Int) (p_At : Int) (p_Logged : List (Int × ByteArray)) (p_Dirty : List (Int × ByteArray)) : Option (Int) := Sem E ⟨34, 0, none⟩ (p_Disk_Blocks, p_Disk_Pending, p_Disk_Fuse, p_Disk_Off, p_Super_Blocks, p_Super_Log, p_Super_Seq, p_Super_Turn, p_Seq, p_At, p_Logged, p_Dirty)
noncomputable def impl_Pager_area (p_Disk_Blocks : List ByteArray) (p_Disk_Pending : List (Int × ByteArray)) (p_Disk_Fuse : Int) (p_Disk_Off : Bool) (p_Super_Blocks : Int) (p_Super_Log : Int) (p_Super_Seq : Int) (p_Super_Turn : Int) (p_Seq : Int) (p_At : Int) (p_Logged : List (Int × ByteArray)) (p_Dirty : List (Int × ByteArray)) : Option (Int) := Sem E ⟨55, 0, none⟩ (p_Disk_Blocks, p_Disk_Pending, p_Disk_Fuse, p_Disk_Off, p_Super_Blocks, p_Super_Log, p_Super_Seq, p_Super_Turn, p_Seq, p_At, p_Logged, p_Dirty)
noncomputable def impl_Pager_get (k : Int) (p_Disk_Blocks : List ByteArray) (p_Disk_Pending : List (Int × ByteArray)) (p_Disk_Fuse : Int) (p_Disk_Off : Bool) (p_Super_Blocks : Int) (p_Super_Log : Int) (p_Super_Seq : Int) (p_Super_Turn : Int) (p_Seq : Int) (p_At : Int) (p_Logged : List (Int × ByteArray)) (p_Dirty : List (Int × ByteArray)) : Option (ByteArray) := Sem E ⟨25, 0, none⟩ (k, p_Disk_Blocks, p_Disk_Pending, p_Disk_Fuse, p_Disk_Off, p_Super_Blocks, p_Super_Log, p_Super_Seq, p_Super_Turn, p_Seq, p_At, p_Logged, p_Dirty)
noncomputable def impl_pageAt (list : List (Int × ByteArray)) (block : Int) : Option (Int × Bool) := Sem E ⟨56, 0, none⟩ (list, block)
noncomputable def slices_BinarySearchFunc_simpl_Page_impl_Page_int64_d_pageAt_1 (x : List (Int × ByteArray)) (target : Int) : Option (Int × Bool) := Sem E ⟨75, 0, none⟩ (x, target)
noncomputable def slices_BinarySearchFunc_simpl_Page_impl_Page_int64_d_pageAt_1_l3 (x : List (Int × ByteArray)) (target : Int) (n : Int) (i : Int) (j : Int) : Option (Int × Bool) := Sem E ⟨75, 0, some 3⟩ (x, target, n, i, j)
noncomputable def impl_pageAt_1 (p_Block : Int) (p_Data : ByteArray) (block : Int) : Option (Int) := Sem E ⟨76, 0, none⟩ (p_Block, p_Data, block)
noncomputable def cmp_Compare_int64 (x : Int) (y : Int) : Option (Int) := Sem E ⟨77, 0, none⟩ (x, y)
noncomputable def cmp_isNaN_int64 (x : Int) : Option (Bool) := Sem E ⟨89, 0, none⟩ x
noncomputable def impl_Pager_committed (k : Int) (p_Disk_Blocks : List ByteArray) (p_Disk_Pending : List (Int × ByteArray)) (p_Disk_Fuse : Int) (p_Disk_Off : Bool) (p_Super_Blocks : Int) (p_Super_Log : Int) (p_Super_Seq : Int) (p_Super_Turn : Int) (p_Seq : Int) (p_At : Int) (p_Logged : List (Int × ByteArray)) (p_Dirty : List (Int × ByteArray)) : Option (ByteArray) := Sem E ⟨57, 0, none⟩ (k, p_Disk_Blocks, p_Disk_Pending, p_Disk_Fuse, p_Disk_Off, p_Super_Blocks, p_Super_Log, p_Super_Seq, p_Super_Turn, p_Seq, p_At, p_Logged, p_Dirty)
noncomputable def impl_Disk_read (x0 : List ByteArray) (x1 : List (Int × ByteArray)) (x2 : Int) (x3 : Bool) (x4 : Int) : Option (ByteArray) := Sem E ⟨78, 0, none⟩ (x0, x1, x2, x3, x4)
noncomputable def impl_getBits (s : ByteArray) : Option (Int) := Sem E ⟨64, 0, none⟩ s
noncomputable def impl_getBits_l3 (s : ByteArray) (n : Int) (t6 : Int) (t7 : Int) : Option (Int) := Sem E ⟨64, 0, some 3⟩ (s, n, t6, t7)
noncomputable def laws_eqPager (a_Disk_Blocks : List ByteArray) (a_Disk_Pending : List (Int × ByteArray)) (a_Disk_Fuse : Int) (a_Disk_Off : Bool) (a_Super_Blocks : Int) (a_Super_Log : Int) (a_Super_Seq : Int) (a_Super_Turn : Int) (a_Seq : Int) (a_At : Int) (a_Logged : List (Int × ByteArray)) (a_Dirty : List (Int × ByteArray)) (b_Disk_Blocks : List ByteArray) (b_Disk_Pending : List (Int × ByteArray)) (b_Disk_Fuse : Int) (b_Disk_Off : Bool) (b_Super_Blocks : Int) (b_Super_Log : Int) (b_Super_Seq : Int) (b_Super_Turn : Int) (b_Seq : Int) (b_At : Int) (b_Logged : List (Int × ByteArray)) (b_Dirty : List (Int × ByteArray)) : Option (Bool) := Sem E ⟨10, 0, none⟩ (a_Disk_Blocks, a_Disk_Pending, a_Disk_Fuse, a_Disk_Off, a_Super_Blocks, a_Super_Log, a_Super_Seq, a_Super_Turn, a_Seq, a_At, a_Logged, a_Dirty, b_Disk_Blocks, b_Disk_Pending, b_Disk_Fuse, b_Disk_Off, b_Super_Blocks, b_Super_Log, b_Super_Seq, b_Super_Turn, b_Seq, b_At, b_Logged, b_Dirty)
noncomputable def laws_eqDisk (a_Blocks : List ByteArray) (a_Pending : List (Int × ByteArray)) (a_Fuse : Int) (a_Off : Bool) (b_Blocks : List ByteArray) (b_Pending : List (Int × ByteArray)) (b_Fuse : Int) (b_Off : Bool) : Option (Bool) := Sem E ⟨26, 0, none⟩ (a_Blocks, a_Pending, a_Fuse, a_Off, b_Blocks, b_Pending, b_Fuse, b_Off)
noncomputable def laws_eqStringS (a : List ByteArray) (b : List ByteArray) : Option (Bool) := Sem E ⟨58, 0, none⟩ (a, b)
noncomputable def laws_eqStringS_l4 (a : List ByteArray) (b : List ByteArray) (i : Int) : Option (Bool) := Sem E ⟨58, 0, some 4⟩ (a, b, i)
noncomputable def laws_eqPutS (a : List (Int × ByteArray)) (b : List (Int × ByteArray)) : Option (Bool) := Sem E ⟨59, 0, none⟩ (a, b)
noncomputable def laws_eqPutS_l4 (a : List (Int × ByteArray)) (b : List (Int × ByteArray)) (i : Int) : Option (Bool) := Sem E ⟨59, 0, some 4⟩ (a, b, i)
noncomputable def laws_eqPut (a_Block : Int) (a_Data : ByteArray) (b_Block : Int) (b_Data : ByteArray) : Option (Bool) := Sem E ⟨79, 0, none⟩ (a_Block, a_Data, b_Block, b_Data)
noncomputable def laws_eqSuper (a_Blocks : Int) (a_Log : Int) (a_Seq : Int) (a_Turn : Int) (b_Blocks : Int) (b_Log : Int) (b_Seq : Int) (b_Turn : Int) : Option (Bool) := Sem E ⟨27, 0, none⟩ (a_Blocks, a_Log, a_Seq, a_Turn, b_Blocks, b_Log, b_Seq, b_Turn)
noncomputable def laws_eqPageS (a : List (Int × ByteArray)) (b : List (Int × ByteArray)) : Option (Bool) := Sem E ⟨28, 0, none⟩ (a, b)
noncomputable def laws_eqPageS_l4 (a : List (Int × ByteArray)) (b : List (Int × ByteArray)) (i : Int) : Option (Bool) := Sem E ⟨28, 0, some 4⟩ (a, b, i)
noncomputable def laws_eqPage (a_Block : Int) (a_Data : ByteArray) (b_Block : Int) (b_Data : ByteArray) : Option (Bool) := Sem E ⟨60, 0, none⟩ (a_Block, a_Data, b_Block, b_Data)
end Go.Ve.X
