/- The environment of 'FnHex' for the evaluator: kinds of elements, layouts of the functions that it reaches (printed by plan.py). No condition. -/
import Derived.Test.YtlcbbiiohhplfaaVeC
import Derived.Test.YtlcbbiiohhplfaaLayFnHex
import Derived.Test.YtlcbbiiohhplfaaProg
namespace Go.Ve.X
open Go.Proofs Go.Ve Go.RowKit
set_option linter.unusedVariables false
set_option maxRecDepth 100000
inductive El | e5 | e9 | z
def El.K : El → Type | .e5 => Int | .e9 => ByteArray | .z => Unit
def El.sh : El → List TS | .e5 => [.int .u8] | .e9 => [.str] | .z => []
def code (n : Nat) : El := match n with | 5 => .e5 | 9 => .e9 | _ => .z
def KK (n : Nat) : Type := (code n).K
def El.toT : (c : El) → c.K → TL KK c.sh | .e5 => fun x => x | .e9 => fun x => x | .z => fun _ => ()
def El.ofT : (c : El) → TL KK c.sh → c.K | .e5 => fun x => x | .e9 => fun x => x | .z => fun _ => ()
theorem El.law (c : El) (t : TL KK c.sh) : c.toT (c.ofT t) = t := by cases c <;> rfl
noncomputable def S : Sig where
  K := KK
  sh := fun n => (code n).sh
  toT := fun n => (code n).toT
  ofT := fun n => (code n).ofT
  law := fun n => (code n).law
  u8 := 5
  ofB := fun s => Ve.ofB s
  toB := fun l => Ve.toB l
def L : List (Nat × Nat × Ann) := [
  (4, 0, { inL := ⟨[(0, .c (.d (.arr 5)))], []⟩, outL := ⟨[(0, .c (.d (.bool)))], []⟩, labels := [] }),
  (14, 0, { inL := ⟨[(0, .c (.d (.arr 5)))], []⟩, outL := ⟨[(0, .c (.d (.bool)))], []⟩, labels := [] }),
  (15, 0, { inL := ⟨[(0, .c (.d (.arr 5)))], []⟩, outL := ⟨[(0, .c (.d (.str)))], []⟩, labels := [] }),
  (48, 0, { inL := ⟨[(0, .c (.d (.arr 5)))], []⟩, outL := ⟨[(0, .c (.ptr 0 0))], [.var true [.d (.arr 5), .d (.int .i64), .d (.int .u64)]]⟩, labels := [] }),
  (49, 0, { inL := ⟨[(0, .c (.ptr 0 0)), (1, .c (.d (.int .i64)))], [.var true [.d (.arr 5), .d (.int .i64), .d (.int .u64)]]⟩, outL := ⟨[(0, .c (.d (.str)))], [.var true [.d (.arr 5), .d (.int .i64), .d (.int .u64)]]⟩, labels := [(3, ⟨[(0, .c (.ptr 0 0)), (5, .c (.vec 1)), (6, .c (.d (.int .i64)))], [.var true [.d (.arr 5), .d (.int .i64), .d (.int .u64)], .vec 5]⟩)] }),
  (56, 0, { inL := ⟨[(0, .c (.ptr 0 0)), (1, .c (.d (.int .i64)))], [.var true [.d (.arr 5), .d (.int .i64), .d (.int .u64)]]⟩, outL := ⟨[(0, .c (.d (.int .i64)))], [.var true [.d (.arr 5), .d (.int .i64), .d (.int .u64)]]⟩, labels := [] }),
  (87, 0, { inL := ⟨[(0, .c (.ptr 0 0))], [.var true [.d (.arr 5), .d (.int .i64), .d (.int .u64)]]⟩, outL := ⟨[(0, .c (.d (.int .i64)))], [.var true [.d (.arr 5), .d (.int .i64), .d (.int .u64)]]⟩, labels := [] }),
  (17, 0, { inL := ⟨[(0, .c (.d (.str)))], []⟩, outL := ⟨[(0, .c (.d (.str)))], []⟩, labels := [(3, ⟨[(0, .c (.d (.str))), (3, .c (.vec 0)), (6, .c (.d (.int .i64))), (7, .c (.d (.int .i64)))], [.vec 5]⟩)] }),
  (16, 0, { inL := ⟨[(0, .c (.d (.str)))], []⟩, outL := ⟨[(0, .c (.d (.str))), (1, .c (.d (.bool)))], []⟩, labels := [(5, ⟨[(0, .c (.d (.str))), (4, .c (.vec 0)), (5, .c (.d (.int .i64)))], [.vec 5]⟩)] }),
  (50, 0, { inL := ⟨[(0, .c (.d (.str))), (1, .c (.d (.int .u8)))], []⟩, outL := ⟨[(0, .c (.d (.int .i64)))], []⟩, labels := [] }),
  (18, 0, { inL := ⟨[(0, .c (.d (.arr 5)))], []⟩, outL := ⟨[(0, .c (.d (.str)))], []⟩, labels := [] }),
  (51, 0, { inL := ⟨[(0, .c (.d (.str)))], []⟩, outL := ⟨[(0, .c (.d (.str)))], []⟩, labels := [(4, ⟨[(0, .c (.d (.str))), (3, .c (.d (.str))), (4, .c (.vec 0)), (5, .c (.d (.int .i64)))], [.vec 5]⟩)] }),
  (52, 0, { inL := ⟨[(0, .c (.ptr 0 0)), (1, .c (.d (.int .i64)))], [.var true [.d (.arr 5), .d (.int .i64), .d (.int .u64)]]⟩, outL := ⟨[(0, .c (.d (.bool)))], [.var true [.d (.arr 5), .d (.int .i64), .d (.int .u64)]]⟩, labels := [] }),
  (53, 0, { inL := ⟨[(0, .c (.ptr 0 0)), (1, .c (.d (.arr 9)))], [.var true [.d (.arr 5), .d (.int .i64), .d (.int .u64)]]⟩, outL := ⟨[(0, .c (.d (.str)))], [.var true [.d (.arr 5), .d (.int .i64), .d (.int .u64)]]⟩, labels := [] }),
  (19, 0, { inL := ⟨[(0, .c (.d (.str)))], []⟩, outL := ⟨[(0, .c (.d (.str)))], []⟩, labels := [] }),
  (54, 0, { inL := ⟨[(0, .c (.vec 0))], [.vec 5]⟩, outL := ⟨[], [.vec 5]⟩, labels := [(1, ⟨[(0, .c (.vec 0)), (2, .c (.d (.int .i64))), (3, .c (.d (.int .i64)))], [.vec 5]⟩)] })]
noncomputable def X : List (ExtRow S (annOf Try.prog L)) := [⟨50, 0, fun d => some (indexByteI (d.1) (d.2))⟩]
@[reducible] noncomputable def E : Env := { S := S, tt := tdOf Try.prog, ann := annOf Try.prog L, ext := extAt S (annOf Try.prog L) X, eqs := fun t => get ([] : List (Nat × List TS)) t }
theorem rows_ok : rowsOk Try.prog L = true := by kernel_rfl
theorem env_ok : EnvOk Try.prog E := envOk_of (by kernel_rfl) rfl rfl rows_ok (eqs_nil) (by kernel_rfl) rfl ofB_len
  (fun s i x h => by
    obtain ⟨b, h1, h2⟩ := Ve.ofB_at (x := x) h
    exact ⟨b, h1, by rw [← h2]; rfl⟩)
  (fun l ns h hl => toB_row (fun i x hx => by
    obtain ⟨n, h1, h2⟩ := h i x hx
    have h2' : ([.int .u8 x] : List (Cell S.K)) = [.int .u8 n] := h2
    injection h2' with h2' _
    injection h2' with _ h2'
    rw [h1, h2']) hl)
theorem ext50_ok : ∀ (d : TL E.S.K (jobT E.ann ⟨50, 0, none⟩)) r, (fun d : ByteArray × Int => (some (indexByteI (d.1) (d.2)) : Option (Int))) d = some r → CallOk Try.prog E 50 0 d r := by
  intro (d : ByteArray × Int) (r : Int) h
  refine flat_ok rfl (fun h => by cases h) (xs := [(0, .c (.str (d.1))), (1, .c (.int .u8 (d.2)))]) (res := [(0, .c (.int .i64 r))]) rfl rfl (fun Fz w vs hz hs => ?_)
  have h90 := crep_str (hs 0 _ rfl)
  have h91 := crep_int (hs 1 _ rfl)
  rw [arr2 hz h90 h91]
  cases h
  exact (Try.strings_IndexByte (d.1) (d.2) w).mono (by rintro e w' ⟨rfl, rfl⟩; exact ⟨_, rfl, Below.refl _ _, .int _ _⟩)
theorem exts_ok : RowsOk Try.prog E X := ⟨ext50_ok, trivial⟩
theorem oks : OrcOk Try.prog E (Sem E) := Sem_ok env_ok (drawn_ok env_ok) (extOk_of rfl exts_ok)
noncomputable def laws_FnHex (code : List Int) : Option (Bool) := Sem E ⟨4, 0, none⟩ code
noncomputable def laws_b10Long (code : List Int) : Option (Bool) := Sem E ⟨14, 0, none⟩ code
noncomputable def spec_DrawHexText (code : List Int) : Option (ByteArray) := Sem E ⟨15, 0, none⟩ code
noncomputable def spec_l00From (code : List Int) : Option (List Int × Int × Int) := Sem E ⟨48, 0, none⟩ code
noncomputable def spec_l00Src_word_wd (n : Int) (s_code : List Int) (s_at : Int) (s_seed : Int) : Option (ByteArray × List Int × Int × Int) := Sem E ⟨49, 0, none⟩ (n, s_code, s_at, s_seed)
noncomputable def spec_l00Src_word_wd_l3 (k : Int) (s_code : List Int) (s_at : Int) (s_seed : Int) (out : List Int) : Option (ByteArray × List Int × Int × Int) := Sem E ⟨49, 0, some 3⟩ (k, s_code, s_at, s_seed, out)
noncomputable def spec_l00Src_pick_wd (n : Int) (s_code : List Int) (s_at : Int) (s_seed : Int) : Option (Int × List Int × Int × Int) := Sem E ⟨56, 0, none⟩ (n, s_code, s_at, s_seed)
noncomputable def spec_l00Src_next_wd (s_code : List Int) (s_at : Int) (s_seed : Int) : Option (Int × List Int × Int × Int) := Sem E ⟨87, 0, none⟩ (s_code, s_at, s_seed)
noncomputable def impl_HexText (s : ByteArray) : Option (ByteArray) := Sem E ⟨17, 0, none⟩ s
noncomputable def impl_HexText_l3 (s : ByteArray) (t6 : Int) (t7 : Int) (out : List Int) : Option (ByteArray) := Sem E ⟨17, 0, some 3⟩ (s, t6, t7, out)
noncomputable def impl_ReadHex (s : ByteArray) : Option (ByteArray × Bool) := Sem E ⟨16, 0, none⟩ s
noncomputable def impl_ReadHex_l5 (s : ByteArray) (i : Int) (out : List Int) : Option (ByteArray × Bool) := Sem E ⟨16, 0, some 5⟩ (s, i, out)
noncomputable def strings_IndexByte (x0 : ByteArray) (x1 : Int) : Option (Int) := Sem E ⟨50, 0, none⟩ (x0, x1)
noncomputable def spec_DrawReadHex (code : List Int) : Option (ByteArray) := Sem E ⟨18, 0, none⟩ code
noncomputable def spec_l01Hex (s : ByteArray) : Option (ByteArray) := Sem E ⟨51, 0, none⟩ s
noncomputable def spec_l01Hex_l4 (s : ByteArray) (digits : ByteArray) (i : Int) (out : List Int) : Option (ByteArray) := Sem E ⟨51, 0, some 4⟩ (s, digits, i, out)
noncomputable def spec_l00Src_one_wd (n : Int) (s_code : List Int) (s_at : Int) (s_seed : Int) : Option (Bool × List Int × Int × Int) := Sem E ⟨52, 0, none⟩ (n, s_code, s_at, s_seed)
noncomputable def spec_l00Src_text_wdd (list : List ByteArray) (s_code : List Int) (s_at : Int) (s_seed : Int) : Option (ByteArray × List Int × Int × Int) := Sem E ⟨53, 0, none⟩ (list, s_code, s_at, s_seed)
noncomputable def impl_ReverseBytes (s : ByteArray) : Option (ByteArray) := Sem E ⟨19, 0, none⟩ s
noncomputable def slices_Reverse_sbyte_byte_v (s : List Int) : Option (List Int) := Sem E ⟨54, 0, none⟩ s
noncomputable def slices_Reverse_sbyte_byte_v_l1 (i : Int) (j : Int) (s : List Int) : Option (List Int) := Sem E ⟨54, 0, some 1⟩ (i, j, s)
end Go.Ve.X
