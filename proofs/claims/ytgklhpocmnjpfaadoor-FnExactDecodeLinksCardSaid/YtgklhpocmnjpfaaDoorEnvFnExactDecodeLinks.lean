/- The environment of 'FnExactDecodeLinks' for the evaluator: kinds of elements, layouts of the functions that it reaches (printed by plan.py). No condition. -/
import Derived.Test.YtgklhpocmnjpfaaDoorVeC
import Derived.Test.YtgklhpocmnjpfaaDoorLayFnExactDecodeLinks
import Derived.Test.YtgklhpocmnjpfaaDoorProg
namespace Go.Ve.X
open Go.Proofs Go.Ve Go.RowKit
set_option linter.unusedVariables false
set_option maxRecDepth 100000
inductive El | e5 | e9 | e97 | z
def El.K : El → Type | .e5 => Int | .e9 => ByteArray | .e97 => ByteArray × Int × ByteArray | .z => Unit
def El.sh : El → List TS | .e5 => [.int .u8] | .e9 => [.str] | .e97 => [.str, .int .i64, .str] | .z => []
def code (n : Nat) : El := match n with | 5 => .e5 | 9 => .e9 | 97 => .e97 | _ => .z
def KK (n : Nat) : Type := (code n).K
def El.toT : (c : El) → c.K → TL KK c.sh | .e5 => fun x => x | .e9 => fun x => x | .e97 => fun x => x | .z => fun _ => ()
def El.ofT : (c : El) → TL KK c.sh → c.K | .e5 => fun x => x | .e9 => fun x => x | .e97 => fun x => x | .z => fun _ => ()
theorem El.law (c : El) (t : TL KK c.sh) : c.toT (c.ofT t) = t := by cases c <;> rfl
noncomputable def S : Sig where
  K := KK
  sh := fun n => (code n).sh
  toT := fun n => (code n).toT
  ofT := fun n => (code n).ofT
  law := fun n => (code n).law
  u8 := 5
  bt := none
  ofB := fun s => Ve.ofB s
  toB := fun l => Ve.toB l
  fixd := [(0, isNum)]
def L : List (Nat × Nat × Ann) := [
  (7, 0, { inL := ⟨[(0, .c (.d (.str))), (1, .a [.d (.arr 9)])], []⟩, outL := ⟨[(0, .c (.d (.bool)))], []⟩, labels := [] }),
  (27, 0, { inL := ⟨[(0, .a [.d (.arr 9)]), (1, .c (.d (.int .i64)))], []⟩, outL := ⟨[(0, .c (.d (.int .i64)))], []⟩, labels := [] }),
  (62, 0, { inL := ⟨[(0, .c (.d (.arr 9))), (1, .c (.d (.int .i64)))], []⟩, outL := ⟨[(0, .c (.d (.int .i64)))], []⟩, labels := [(5, ⟨[(0, .c (.d (.arr 9))), (1, .c (.d (.int .i64))), (5, .c (.d (.int .i64)))], []⟩)] }),
  (29, 0, { inL := ⟨[(0, .a [.d (.arr 9)])], []⟩, outL := ⟨[(0, .a [.vec 0])], [.vec 9]⟩, labels := [] }),
  (69, 0, { inL := ⟨[(0, .c (.d (.arr 9)))], []⟩, outL := ⟨[(0, .c (.vec 0))], [.vec 9]⟩, labels := [(3, ⟨[(0, .c (.d (.arr 9))), (3, .c (.vec 0)), (4, .c (.d (.int .i64)))], [.vec 9]⟩)] }),
  (28, 0, { inL := ⟨[(0, .c (.d (.str))), (1, .a [.d (.arr 9)])], []⟩, outL := ⟨[(0, .c (.vec 0)), (1, .c (.d (.bool)))], [.vec 97]⟩, labels := [(5, ⟨[(0, .c (.d (.str))), (3, .c (.ptr 0 0)), (6, .c (.ptr 1 0)), (7, .c (.vec 2))], [.var true [.d (.arr 9)], .var true [.d (.str), .d (.int .i64), .d (.bool)], .vec 97]⟩)] }),
  (63, 0, { inL := ⟨[(0, .a [.d (.arr 9)])], []⟩, outL := ⟨[(0, .c (.d (.bool)))], []⟩, labels := [(5, ⟨[(1, .c (.ptr 0 0)), (3, .c (.d (.int .i64))), (4, .c (.d (.int .i64)))], [.var true [.d (.arr 9)]]⟩)] }),
  (99, 0, { inL := ⟨[(0, .c (.d (.str)))], []⟩, outL := ⟨[(0, .c (.d (.bool)))], []⟩, labels := [(4, ⟨[(0, .c (.d (.str))), (3, .c (.d (.int .i64)))], []⟩)] }),
  (122, 0, { inL := ⟨[(0, .c (.d (.int .u8)))], []⟩, outL := ⟨[(0, .c (.d (.bool)))], []⟩, labels := [] }),
  (65, 0, { inL := ⟨[(0, .c (.ptr 0 0))], [.var true [.d (.str), .d (.int .i64), .d (.bool)]]⟩, outL := ⟨[(0, .c (.d (.int .i64)))], [.var true [.d (.str), .d (.int .i64), .d (.bool)]]⟩, labels := [] }),
  (64, 0, { inL := ⟨[(0, .a [.d (.arr 9)]), (1, .c (.d (.int .i64)))], []⟩, outL := ⟨[(0, .c (.d (.str))), (1, .c (.d (.bool)))], []⟩, labels := [] }),
  (39, 0, { inL := ⟨[(0, .c (.d (.int .i64))), (1, .c (.d (.int .i64))), (2, .c (.d (.int .i64)))], []⟩, outL := ⟨[(0, .c (.d (.bool)))], []⟩, labels := [] }),
  (66, 0, { inL := ⟨[(0, .c (.ptr 0 0)), (1, .c (.d (.int .i64)))], [.var true [.d (.str), .d (.int .i64), .d (.bool)]]⟩, outL := ⟨[(0, .c (.d (.str)))], [.var true [.d (.str), .d (.int .i64), .d (.bool)]]⟩, labels := [] }),
  (67, 0, { inL := ⟨[(0, .c (.d (.arr 97)))], []⟩, outL := ⟨[(0, .c (.d (.bool)))], []⟩, labels := [(2, ⟨[(0, .c (.d (.arr 97))), (3, .c (.d (.int .i64)))], []⟩)] }),
  (100, 0, { inL := ⟨[(0, .c (.d (.str)))], []⟩, outL := ⟨[(0, .c (.d (.bool)))], []⟩, labels := [] }),
  (123, 0, { inL := ⟨[(0, .c (.d (.str)))], []⟩, outL := ⟨[(0, .c (.vec 0)), (1, .c (.d (.bool)))], [.vec 9]⟩, labels := [(8, ⟨[(0, .c (.d (.str))), (4, .c (.vec 0)), (5, .c (.d (.int .i64))), (6, .c (.d (.int .i64)))], [.vec 9]⟩)] }),
  (68, 0, { inL := ⟨[(0, .a [.d (.arr 9)])], []⟩, outL := ⟨[(0, .c (.d (.int .i64)))], []⟩, labels := [(3, ⟨[(1, .c (.ptr 0 0)), (3, .c (.d (.int .i64))), (4, .c (.d (.int .i64)))], [.var true [.d (.arr 9)]]⟩)] }),
  (30, 0, { inL := ⟨[(0, .c (.d (.str))), (1, .a [.d (.arr 9)])], []⟩, outL := ⟨[(0, .c (.vec 0)), (1, .c (.d (.bool)))], [.vec 97]⟩, labels := [(5, ⟨[(3, .c (.ptr 0 0)), (6, .c (.ptr 1 0)), (7, .c (.vec 2))], [.var true [.d (.arr 9)], .var true [.d (.str), .d (.bool)], .vec 97]⟩)] }),
  (70, 0, { inL := ⟨[(0, .a [.d (.arr 9)])], []⟩, outL := ⟨[(0, .c (.d (.bool)))], []⟩, labels := [] }),
  (101, 0, { inL := ⟨[(0, .c (.d (.arr 9))), (1, .c (.fn 102 []))], []⟩, outL := ⟨[(0, .c (.d (.bool)))], []⟩, labels := [] }),
  (124, 0, { inL := ⟨[(0, .c (.d (.arr 9))), (1, .c (.fn 102 []))], []⟩, outL := ⟨[(0, .c (.d (.int .i64)))], []⟩, labels := [(2, ⟨[(0, .c (.d (.arr 9))), (1, .c (.fn 102 [])), (7, .c (.d (.int .i64))), (8, .c (.d (.int .i64)))], []⟩)] }),
  (102, 0, { inL := ⟨[(0, .c (.d (.str)))], []⟩, outL := ⟨[(0, .c (.d (.bool)))], []⟩, labels := [] }),
  (103, 0, { inL := ⟨[(0, .c (.d (.str)))], []⟩, outL := ⟨[(0, .c (.d (.bool)))], []⟩, labels := [(2, ⟨[(0, .c (.d (.str))), (7, .c (.d (.int .i64))), (8, .c (.d (.int .i64)))], []⟩), (6, ⟨[(0, .c (.d (.str))), (3, .c (.d (.int .i64))), (4, .c (.d (.int .u8))), (5, .c (.d (.bool))), (7, .c (.d (.int .i64))), (8, .c (.d (.int .i64)))], []⟩)] }),
  (71, 0, { inL := ⟨[(0, .c (.ptr 0 0)), (1, .a [.d (.arr 9)])], [.var true [.d (.str), .d (.bool)]]⟩, outL := ⟨[(0, .a [.d (.str), .d (.int .i64), .d (.str)])], [.var true [.d (.str), .d (.bool)]]⟩, labels := [] }),
  (104, 0, { inL := ⟨[(0, .c (.ptr 0 0))], [.var true [.d (.str), .d (.bool)]]⟩, outL := ⟨[(0, .c (.d (.int .i64)))], [.var true [.d (.str), .d (.bool)]]⟩, labels := [] }),
  (106, 0, { inL := ⟨[(0, .c (.ptr 0 0)), (1, .c (.d (.int .i64)))], [.var true [.d (.str), .d (.bool)]]⟩, outL := ⟨[(0, .c (.d (.int .i64)))], [.var true [.d (.str), .d (.bool)]]⟩, labels := [] }),
  (107, 0, { inL := ⟨[(0, .c (.ptr 0 0)), (1, .c (.d (.int .i64)))], [.var true [.d (.str), .d (.bool)]]⟩, outL := ⟨[(0, .c (.d (.str)))], [.var true [.d (.str), .d (.bool)]]⟩, labels := [] }),
  (127, 0, { inL := ⟨[(0, .c (.d (.str))), (1, .c (.d (.int .i64))), (2, .c (.d (.int .i64)))], []⟩, outL := ⟨[(0, .c (.d (.str))), (1, .c (.d (.bool)))], []⟩, labels := [] }),
  (42, 0, { inL := ⟨[(0, .c (.d (.int .i64))), (1, .c (.d (.int .i64))), (2, .c (.d (.int .i64)))], []⟩, outL := ⟨[(0, .c (.d (.bool)))], []⟩, labels := [] }),
  (126, 0, { inL := ⟨[(0, .c (.d (.str)))], []⟩, outL := ⟨[(0, .c (.d (.int .u64)))], []⟩, labels := [(3, ⟨[(0, .c (.d (.str))), (3, .c (.d (.int .u64))), (6, .c (.d (.int .i64))), (7, .c (.d (.int .i64)))], []⟩)] }),
  (105, 0, { inL := ⟨[(0, .a [.d (.arr 9)]), (1, .c (.d (.int .i64)))], []⟩, outL := ⟨[(0, .c (.d (.bool)))], []⟩, labels := [] }),
  (125, 0, { inL := ⟨[(0, .c (.d (.int .i64))), (1, .c (.d (.int .i64)))], []⟩, outL := ⟨[(0, .c (.d (.bool)))], []⟩, labels := [] }),
  (72, 0, { inL := ⟨[(0, .c (.d (.arr 97)))], []⟩, outL := ⟨[(0, .c (.d (.bool)))], []⟩, labels := [(2, ⟨[(0, .c (.d (.arr 97))), (5, .c (.d (.arr 97))), (6, .c (.d (.int .i64))), (7, .c (.d (.int .i64)))], []⟩)] }),
  (108, 0, { inL := ⟨[(0, .a [.d (.str), .d (.int .i64), .d (.str)])], []⟩, outL := ⟨[(0, .c (.d (.bool)))], []⟩, labels := [] }),
  (128, 0, { inL := ⟨[(0, .c (.d (.str)))], []⟩, outL := ⟨[(0, .c (.d (.bool)))], []⟩, labels := [] }),
  (139, 0, { inL := ⟨[(0, .c (.d (.str)))], []⟩, outL := ⟨[(0, .c (.d (.arr 9))), (1, .c (.d (.bool)))], []⟩, labels := [], site := fun d => bif Nat.beq d 25 then 1 else 0 }),
  (156, 0, { inL := ⟨[(0, .c (.d (.str))), (1, .c (.d (.str)))], []⟩, outL := ⟨[(0, .c (.d (.str))), (1, .c (.d (.bool)))], []⟩, labels := [] }),
  (157, 0, { inL := ⟨[(0, .c (.d (.str))), (1, .c (.d (.str)))], []⟩, outL := ⟨[(0, .c (.d (.arr 9)))], []⟩, labels := [] }),
  (101, 1, { inL := ⟨[(0, .c (.d (.arr 9))), (1, .c (.fn 158 []))], []⟩, outL := ⟨[(0, .c (.d (.bool)))], []⟩, labels := [], site := fun d => bif Nat.beq d 7 then 1 else 0 }),
  (124, 1, { inL := ⟨[(0, .c (.d (.arr 9))), (1, .c (.fn 158 []))], []⟩, outL := ⟨[(0, .c (.d (.int .i64)))], []⟩, labels := [(2, ⟨[(0, .c (.d (.arr 9))), (1, .c (.fn 158 [])), (7, .c (.d (.int .i64))), (8, .c (.d (.int .i64)))], []⟩)] }),
  (158, 0, { inL := ⟨[(0, .c (.d (.str)))], []⟩, outL := ⟨[(0, .c (.d (.bool)))], []⟩, labels := [] }),
  (73, 0, { inL := ⟨[(0, .a [.d (.arr 9)])], []⟩, outL := ⟨[(0, .c (.d (.int .i64)))], []⟩, labels := [] }),
  (110, 0, { inL := ⟨[(0, .c (.d (.arr 9)))], []⟩, outL := ⟨[(0, .c (.vec 0))], [.vec 9]⟩, labels := [] }),
  (109, 0, { inL := ⟨[(0, .c (.vec 0)), (1, .c (.fn 111 []))], [.vec 9]⟩, outL := ⟨[(0, .c (.vec 1))], [.gone, .vec 9]⟩, labels := [(5, ⟨[(0, .c (.vec 0)), (1, .c (.fn 111 [])), (5, .c (.d (.int .i64))), (6, .c (.d (.int .i64)))], [.vec 9]⟩)], site := fun d => bif Nat.beq d 10 then 2 else 0 }),
  (124, 2, { inL := ⟨[(0, .c (.d (.arr 9))), (1, .c (.fn 111 []))], []⟩, outL := ⟨[(0, .c (.d (.int .i64)))], []⟩, labels := [(2, ⟨[(0, .c (.d (.arr 9))), (1, .c (.fn 111 [])), (7, .c (.d (.int .i64))), (8, .c (.d (.int .i64)))], []⟩)] }),
  (111, 0, { inL := ⟨[(0, .c (.d (.str)))], []⟩, outL := ⟨[(0, .c (.d (.bool)))], []⟩, labels := [] }),
  (31, 0, { inL := ⟨[(0, .c (.d (.arr 97))), (1, .c (.d (.arr 97)))], []⟩, outL := ⟨[(0, .c (.d (.bool)))], []⟩, labels := [(4, ⟨[(0, .c (.d (.arr 97))), (1, .c (.d (.arr 97))), (5, .c (.d (.int .i64)))], []⟩)] }),
  (74, 0, { inL := ⟨[(0, .a [.d (.str), .d (.int .i64), .d (.str)]), (1, .a [.d (.str), .d (.int .i64), .d (.str)])], []⟩, outL := ⟨[(0, .c (.d (.bool)))], []⟩, labels := [] }),
  (32, 0, { inL := ⟨[(0, .a [.d (.arr 9)]), (1, .a [.d (.arr 9)])], []⟩, outL := ⟨[(0, .c (.d (.bool)))], []⟩, labels := [] }),
  (75, 0, { inL := ⟨[(0, .c (.d (.arr 9))), (1, .c (.d (.arr 9)))], []⟩, outL := ⟨[(0, .c (.d (.bool)))], []⟩, labels := [(4, ⟨[(0, .c (.d (.arr 9))), (1, .c (.d (.arr 9))), (5, .c (.d (.int .i64)))], []⟩)] }),
  (33, 0, { inL := ⟨[(0, .a [.vec 0]), (1, .c (.d (.int .i64)))], [.vec 9]⟩, outL := ⟨[(0, .c (.d (.int .i64)))], [.vec 9]⟩, labels := [] }),
  (76, 0, { inL := ⟨[(0, .c (.vec 0)), (1, .c (.d (.int .i64)))], [.vec 9]⟩, outL := ⟨[(0, .c (.d (.int .i64)))], [.vec 9]⟩, labels := [(2, ⟨[(0, .c (.vec 0)), (1, .c (.d (.int .i64))), (5, .c (.d (.int .i64)))], [.vec 9]⟩)] }),
  (77, 0, { inL := ⟨[(0, .c (.d (.int .i64)))], []⟩, outL := ⟨[(0, .c (.d (.str)))], []⟩, labels := [(4, ⟨[(0, .c (.d (.int .i64))), (3, .c (.d (.str)))], []⟩)] }),
  (34, 0, { inL := ⟨[(0, .c (.vec 0)), (1, .c (.d (.int .i64)))], [.vec 97]⟩, outL := ⟨[(0, .c (.d (.int .i64)))], [.vec 97]⟩, labels := [(2, ⟨[(0, .c (.vec 0)), (1, .c (.d (.int .i64))), (5, .c (.d (.int .i64)))], [.vec 97]⟩)] }),
  (35, 0, { inL := ⟨[(0, .c (.d (.arr 97))), (1, .c (.d (.int .i64)))], []⟩, outL := ⟨[(0, .c (.d (.int .i64)))], []⟩, labels := [(2, ⟨[(0, .c (.d (.arr 97))), (1, .c (.d (.int .i64))), (5, .c (.d (.int .i64)))], []⟩)] })]
noncomputable def X : List (ExtRow S (annOf Tryd.prog L)) := [⟨156, 0, fun d => some (cutPre (d.1) (d.2))⟩, ⟨157, 0, fun d => splitI (d.1) (d.2)⟩]
@[reducible] noncomputable def E : Env := { S := S, tt := tdOf Tryd.prog, ann := annOf Tryd.prog L, ext := extAt S (annOf Tryd.prog L) X, eqs := fun t => get ([] : List (Nat × List TS)) t }
theorem rows_ok : rowsOk Tryd.prog L = true := by kernel_rfl
theorem env_ok : EnvOk Tryd.prog E := envOk_of (by kernel_rfl) rfl rfl rows_ok (eqs_nil) (by kernel_rfl) rfl ofB_len
  (fun s i x h => by
    obtain ⟨b, h1, h2⟩ := Ve.ofB_at (x := x) h
    exact ⟨b, h1, by rw [← h2]; rfl⟩)
  (fun l ns h hl => toB_row (fun i x hx => by
    obtain ⟨n, h1, h2⟩ := h i x hx
    have h2' : ([.int .u8 x] : List (Cell S.K)) = [.int .u8 n] := h2
    injection h2' with h2' _
    injection h2' with _ h2'
    rw [h1, h2']) hl)
theorem ext156_ok : ∀ (d : TL E.S.K (jobT E.ann ⟨156, 0, none⟩)) r, (fun d : ByteArray × ByteArray => (some (cutPre (d.1) (d.2)) : Option (ByteArray × Bool))) d = some r → CallOk Tryd.prog E 156 0 d r := by
  intro (d : ByteArray × ByteArray) (r : ByteArray × Bool) h
  refine flat_ok3 rfl (fun h => by cases h) (xs := [(0, .c (.str (d.1))), (1, .c (.str (d.2)))]) (res := [(0, .c (.str r.1)), (1, .c (.bool r.2))]) rfl rfl (fun Fz w vs hz hlt hfx hs => ?_)
  have h90 := crep_str (hs 0 _ rfl)
  have h91 := crep_str (hs 1 _ rfl)
  rw [arr2 hz h90 h91]
  cases h
  exact (Tryd.strings_CutPrefix (d.1) (d.2) w).mono (by rintro e w' ⟨rfl, rfl⟩; exact ⟨_, rfl, Below.refl _ _, ⟨[.string _, .bool _], rfl, .cons (show TRep _ _ _ (.str _) _ from .str _) (.cons (show TRep _ _ _ (.bool _) _ from .bool _) .nil)⟩⟩)
theorem ext157_ok : ∀ (d : TL E.S.K (jobT E.ann ⟨157, 0, none⟩)) r, (fun d : ByteArray × ByteArray => (splitI (d.1) (d.2) : Option (List ByteArray))) d = some r → CallOk Tryd.prog E 157 0 d r := by
  intro (d : ByteArray × ByteArray) (r : List ByteArray) h
  refine flat_ok4 rfl (fun h => by cases h) (xs := [(0, .c (.str (d.1))), (1, .c (.str (d.2)))]) (res := [(0, .c (.arr 9 r))]) rfl rfl (fun Fz w vs hz hlt hfx hs => ?_)
  have h90 := crep_str (hs 0 _ rfl)
  have h91 := crep_str (hs 1 _ rfl)
  rw [arr2 hz h90 h91]
  obtain ⟨h1, h2, hr⟩ := splitI_some h
  obtain ⟨mx, hm⟩ := num_of_fixed 0 (show (0, isNum) ∈ E.S.fixd from .head _) hfx
  have hlen := Lib.splitB_all (d.2) h2 0 _ (d.1) rfl
  exact (Any.strings_Split { Tryd.laysM146 with } Tryd.laysM146.i9 (d.1) (d.2) mx w h1 hm h2).mono (by
    rintro e w' ⟨rfl, rfl⟩
    refine ⟨_, rfl, (Below.refl _ _).alloc (Nat.le_refl _) _, ?_⟩
    rw [← hlen, hr]
    exact crep_strs_mk (S := E.S) (D := fun _ => False) (φ := fun _ => ⟨none, 0, 0, 0⟩) (e := 9) (l := r) (fun x : ByteArray => x) (fun _ => rfl) rfl (.inr ⟨Nat.le_refl _, by simp⟩) (fun i x hx => (World.cell?_alloc_new w _ _ i).trans (by
      have hx : r[i]? = some x := hx
      rw [List.getElem?_toArray, List.getElem?_map, hx]; rfl)))
theorem exts_ok : RowsOk Tryd.prog E X := ⟨ext156_ok, ext157_ok, trivial⟩
theorem oks : OrcOk Tryd.prog E (Sem E) := Sem_ok env_ok (drawn_ok env_ok) (extOk_of rfl exts_ok)
noncomputable def laws_FnExactDecodeLinks (aS : ByteArray) (aH_Names : List ByteArray) : Option (Bool) := Sem E ⟨7, 0, none⟩ (aS, aH_Names)
noncomputable def laws_szNameHeap (a_Names : List ByteArray) (left : Int) : Option (Int) := Sem E ⟨27, 0, none⟩ (a_Names, left)
noncomputable def laws_szStringS (a : List ByteArray) (left : Int) : Option (Int) := Sem E ⟨62, 0, none⟩ (a, left)
noncomputable def laws_szStringS_l5 (a : List ByteArray) (left : Int) (i : Int) : Option (Int) := Sem E ⟨62, 0, some 5⟩ (a, left, i)
noncomputable def laws_toNameHeap (a_Names : List ByteArray) : Option (List ByteArray) := Sem E ⟨29, 0, none⟩ a_Names
noncomputable def laws_toStringS (a : List ByteArray) : Option (List ByteArray) := Sem E ⟨69, 0, none⟩ a
noncomputable def laws_toStringS_l3 (a : List ByteArray) (i : Int) (out : List ByteArray) : Option (List ByteArray) := Sem E ⟨69, 0, some 3⟩ (a, i, out)
noncomputable def spec_DecodeLinks (s : ByteArray) (h_Names : List ByteArray) : Option (Bool × List (ByteArray × Int × ByteArray)) := Sem E ⟨28, 0, none⟩ (s, h_Names)
noncomputable def spec_DecodeLinks_l5 (s : ByteArray) (h : List ByteArray) (r_s : ByteArray) (r_at : Int) (r_bad : Bool) (out : List (ByteArray × Int × ByteArray)) : Option (Bool × List (ByteArray × Int × ByteArray)) := Sem E ⟨28, 0, some 5⟩ (s, h, r_s, r_at, r_bad, out)
noncomputable def spec_l16Ok (h_Names : List ByteArray) : Option (Bool) := Sem E ⟨63, 0, none⟩ h_Names
noncomputable def spec_l16Ok_l5 (n : Int) (i : Int) (h : List ByteArray) : Option (Bool) := Sem E ⟨63, 0, some 5⟩ (n, i, h)
noncomputable def spec_IsName (s : ByteArray) : Option (Bool) := Sem E ⟨99, 0, none⟩ s
noncomputable def spec_IsName_l4 (s : ByteArray) (i : Int) : Option (Bool) := Sem E ⟨99, 0, some 4⟩ (s, i)
noncomputable def spec_l01Letter (c : Int) : Option (Bool) := Sem E ⟨122, 0, none⟩ c
noncomputable def spec_l02Reader_byte_w (r_s : ByteArray) (r_at : Int) (r_bad : Bool) : Option (Int × ByteArray × Int × Bool) := Sem E ⟨65, 0, none⟩ (r_s, r_at, r_bad)
noncomputable def spec_NameAt (h_Names : List ByteArray) (k : Int) : Option (ByteArray × Bool) := Sem E ⟨64, 0, none⟩ (h_Names, k)
noncomputable def spec_l00In (n : Int) (low : Int) (high : Int) : Option (Bool) := Sem E ⟨39, 0, none⟩ (n, low, high)
noncomputable def spec_l02Reader_take_w (n : Int) (r_s : ByteArray) (r_at : Int) (r_bad : Bool) : Option (ByteArray × ByteArray × Int × Bool) := Sem E ⟨66, 0, none⟩ (n, r_s, r_at, r_bad)
noncomputable def spec_l17Ok (list : List (ByteArray × Int × ByteArray)) : Option (Bool) := Sem E ⟨67, 0, none⟩ list
noncomputable def spec_l17Ok_l2 (list : List (ByteArray × Int × ByteArray)) (i : Int) : Option (Bool) := Sem E ⟨67, 0, some 2⟩ (list, i)
noncomputable def spec_ValidPath (s : ByteArray) : Option (Bool) := Sem E ⟨100, 0, none⟩ s
noncomputable def spec_l17Split (s : ByteArray) : Option (Bool × List ByteArray) := Sem E ⟨123, 0, none⟩ s
noncomputable def spec_l17Split_l8 (s : ByteArray) (from_ : Int) (i : Int) (out : List ByteArray) : Option (Bool × List ByteArray) := Sem E ⟨123, 0, some 8⟩ (s, from_, i, out)
noncomputable def spec_l17Count (h_Names : List ByteArray) : Option (Int) := Sem E ⟨68, 0, none⟩ h_Names
noncomputable def spec_l17Count_l3 (n : Int) (i : Int) (h : List ByteArray) : Option (Int) := Sem E ⟨68, 0, some 3⟩ (n, i, h)
noncomputable def impl_DecodeLinks (s : ByteArray) (h_Names : List ByteArray) : Option (Bool × List (ByteArray × Int × ByteArray)) := Sem E ⟨30, 0, none⟩ (s, h_Names)
noncomputable def impl_DecodeLinks_l5 (h : List ByteArray) (d_rest : ByteArray) (d_bad : Bool) (list : List (ByteArray × Int × ByteArray)) : Option (Bool × List (ByteArray × Int × ByteArray)) := Sem E ⟨30, 0, some 5⟩ (h, d_rest, d_bad, list)
noncomputable def impl_ValidHeap (h_Names : List ByteArray) : Option (Bool) := Sem E ⟨70, 0, none⟩ h_Names
noncomputable def slices_ContainsFunc_sstring_string_d_ValidHeap_1 (s : List ByteArray) : Option (Bool) := Sem E ⟨101, 0, none⟩ s
noncomputable def slices_IndexFunc_sstring_string_d_ValidHeap_1 (s : List ByteArray) : Option (Int) := Sem E ⟨124, 0, none⟩ s
noncomputable def slices_IndexFunc_sstring_string_d_ValidHeap_1_l2 (s : List ByteArray) (t7 : Int) (t8 : Int) : Option (Int) := Sem E ⟨124, 0, some 2⟩ (s, t7, t8)
noncomputable def impl_ValidHeap_1 (s : ByteArray) : Option (Bool) := Sem E ⟨102, 0, none⟩ s
noncomputable def impl_IsName (s : ByteArray) : Option (Bool) := Sem E ⟨103, 0, none⟩ s
noncomputable def impl_IsName_l2 (s : ByteArray) (t7 : Int) (t8 : Int) : Option (Bool) := Sem E ⟨103, 0, some 2⟩ (s, t7, t8)
noncomputable def impl_IsName_l6 (s : ByteArray) (i : Int) (c : Int) (letter : Bool) (t7 : Int) (t8 : Int) : Option (Bool) := Sem E ⟨103, 0, some 6⟩ (s, i, c, letter, t7, t8)
noncomputable def impl_decoder_link_wd (h_Names : List ByteArray) (d_rest : ByteArray) (d_bad : Bool) : Option (ByteArray × Int × ByteArray × ByteArray × Bool) := Sem E ⟨71, 0, none⟩ (h_Names, d_rest, d_bad)
noncomputable def impl_decoder_byte_w (d_rest : ByteArray) (d_bad : Bool) : Option (Int × ByteArray × Bool) := Sem E ⟨104, 0, none⟩ (d_rest, d_bad)
noncomputable def impl_decoder_number_w (size : Int) (d_rest : ByteArray) (d_bad : Bool) : Option (Int × ByteArray × Bool) := Sem E ⟨106, 0, none⟩ (size, d_rest, d_bad)
noncomputable def impl_decoder_take_w (n : Int) (d_rest : ByteArray) (d_bad : Bool) : Option (ByteArray × ByteArray × Bool) := Sem E ⟨107, 0, none⟩ (n, d_rest, d_bad)
noncomputable def impl_cut (s : ByteArray) (at_ : Int) (size : Int) : Option (ByteArray × Bool) := Sem E ⟨127, 0, none⟩ (s, at_, size)
noncomputable def impl_within (n : Int) (low : Int) (high : Int) : Option (Bool) := Sem E ⟨42, 0, none⟩ (n, low, high)
noncomputable def impl_getBits (s : ByteArray) : Option (Int) := Sem E ⟨126, 0, none⟩ s
noncomputable def impl_getBits_l3 (s : ByteArray) (n : Int) (t6 : Int) (t7 : Int) : Option (Int) := Sem E ⟨126, 0, some 3⟩ (s, n, t6, t7)
noncomputable def impl_NameHeap_used (h_Names : List ByteArray) (k : Int) : Option (Bool) := Sem E ⟨105, 0, none⟩ (h_Names, k)
noncomputable def impl_isIndex (i : Int) (many : Int) : Option (Bool) := Sem E ⟨125, 0, none⟩ (i, many)
noncomputable def impl_ValidLinks (list : List (ByteArray × Int × ByteArray)) : Option (Bool) := Sem E ⟨72, 0, none⟩ list
noncomputable def impl_ValidLinks_l2 (list : List (ByteArray × Int × ByteArray)) (t5 : List (ByteArray × Int × ByteArray)) (t6 : Int) (t7 : Int) : Option (Bool) := Sem E ⟨72, 0, some 2⟩ (list, t5, t6, t7)
noncomputable def impl_linkOk (l_Name : ByteArray) (l_Target : Int) (l_Path : ByteArray) : Option (Bool) := Sem E ⟨108, 0, none⟩ (l_Name, l_Target, l_Path)
noncomputable def impl_ValidPath (s : ByteArray) : Option (Bool) := Sem E ⟨128, 0, none⟩ s
noncomputable def impl_splitPath (s : ByteArray) : Option (List ByteArray × Bool) := Sem E ⟨139, 0, none⟩ s
noncomputable def strings_CutPrefix (x0 : ByteArray) (x1 : ByteArray) : Option (ByteArray × Bool) := Sem E ⟨156, 0, none⟩ (x0, x1)
noncomputable def strings_Split (x0 : ByteArray) (x1 : ByteArray) : Option (List ByteArray) := Sem E ⟨157, 0, none⟩ (x0, x1)
noncomputable def slices_ContainsFunc_sstring_string_d_splitPath_1 (s : List ByteArray) : Option (Bool) := Sem E ⟨101, 1, none⟩ s
noncomputable def slices_IndexFunc_sstring_string_d_splitPath_1 (s : List ByteArray) : Option (Int) := Sem E ⟨124, 1, none⟩ s
noncomputable def slices_IndexFunc_sstring_string_d_splitPath_1_l2 (s : List ByteArray) (t7 : Int) (t8 : Int) : Option (Int) := Sem E ⟨124, 1, some 2⟩ (s, t7, t8)
noncomputable def impl_splitPath_1 (n : ByteArray) : Option (Bool) := Sem E ⟨158, 0, none⟩ n
noncomputable def impl_NameHeap_usedSlots (h_Names : List ByteArray) : Option (Int) := Sem E ⟨73, 0, none⟩ h_Names
noncomputable def slices_Clone_sstring_string (s : List ByteArray) : Option (List ByteArray) := Sem E ⟨110, 0, none⟩ s
noncomputable def slices_DeleteFunc_sstring_string_v_NameHeap_usedSlots_1 (s : List ByteArray) : Option (List ByteArray) := Sem E ⟨109, 0, none⟩ s
noncomputable def slices_DeleteFunc_sstring_string_v_NameHeap_usedSlots_1_l5 (i : Int) (j : Int) (s : List ByteArray) : Option (List ByteArray) := Sem E ⟨109, 0, some 5⟩ (i, j, s)
noncomputable def slices_IndexFunc_sstring_string_d_NameHeap_usedSlots_1 (s : List ByteArray) : Option (Int) := Sem E ⟨124, 2, none⟩ s
noncomputable def slices_IndexFunc_sstring_string_d_NameHeap_usedSlots_1_l2 (s : List ByteArray) (t7 : Int) (t8 : Int) : Option (Int) := Sem E ⟨124, 2, some 2⟩ (s, t7, t8)
noncomputable def impl_NameHeap_usedSlots_1 (s : ByteArray) : Option (Bool) := Sem E ⟨111, 0, none⟩ s
noncomputable def laws_eqLinkS (a : List (ByteArray × Int × ByteArray)) (b : List (ByteArray × Int × ByteArray)) : Option (Bool) := Sem E ⟨31, 0, none⟩ (a, b)
noncomputable def laws_eqLinkS_l4 (a : List (ByteArray × Int × ByteArray)) (b : List (ByteArray × Int × ByteArray)) (i : Int) : Option (Bool) := Sem E ⟨31, 0, some 4⟩ (a, b, i)
noncomputable def laws_eqLink (a_Name : ByteArray) (a_Target : Int) (a_Path : ByteArray) (b_Name : ByteArray) (b_Target : Int) (b_Path : ByteArray) : Option (Bool) := Sem E ⟨74, 0, none⟩ (a_Name, a_Target, a_Path, b_Name, b_Target, b_Path)
noncomputable def laws_eqNameHeap (a_Names : List ByteArray) (b_Names : List ByteArray) : Option (Bool) := Sem E ⟨32, 0, none⟩ (a_Names, b_Names)
noncomputable def laws_eqStringS (a : List ByteArray) (b : List ByteArray) : Option (Bool) := Sem E ⟨75, 0, none⟩ (a, b)
noncomputable def laws_eqStringS_l4 (a : List ByteArray) (b : List ByteArray) (i : Int) : Option (Bool) := Sem E ⟨75, 0, some 4⟩ (a, b, i)
noncomputable def laws_markNameHeap_v (k : Int) (a_Names : List ByteArray) : Option (Int × List ByteArray) := Sem E ⟨33, 0, none⟩ (k, a_Names)
noncomputable def laws_markStringS_v (k : Int) (a : List ByteArray) : Option (Int × List ByteArray) := Sem E ⟨76, 0, none⟩ (k, a)
noncomputable def laws_markStringS_v_l2 (k : Int) (i : Int) (a : List ByteArray) : Option (Int × List ByteArray) := Sem E ⟨76, 0, some 2⟩ (k, i, a)
noncomputable def laws_markText (k : Int) : Option (ByteArray) := Sem E ⟨77, 0, none⟩ k
noncomputable def laws_markText_l4 (k : Int) (out : ByteArray) : Option (ByteArray) := Sem E ⟨77, 0, some 4⟩ (k, out)
noncomputable def laws_markLinkS_v (k : Int) (a : List (ByteArray × Int × ByteArray)) : Option (Int × List (ByteArray × Int × ByteArray)) := Sem E ⟨34, 0, none⟩ (k, a)
noncomputable def laws_markLinkS_v_l2 (k : Int) (i : Int) (a : List (ByteArray × Int × ByteArray)) : Option (Int × List (ByteArray × Int × ByteArray)) := Sem E ⟨34, 0, some 2⟩ (k, i, a)
noncomputable def laws_heldLinkS (a : List (ByteArray × Int × ByteArray)) (k : Int) : Option (Int) := Sem E ⟨35, 0, none⟩ (a, k)
noncomputable def laws_heldLinkS_l2 (a : List (ByteArray × Int × ByteArray)) (k : Int) (i : Int) : Option (Int) := Sem E ⟨35, 0, some 2⟩ (a, k, i)
end Go.Ve.X
