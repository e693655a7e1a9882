/- The environment of 'FnLzShort' for the evaluator: kinds of elements, layouts of the functions that it reaches (printed by plan.py). No condition. -/
import Derived.Test.YtkfcmjdooldonaaVeC
import Derived.Test.YtkfcmjdooldonaaLayFnLzShort
import Derived.Test.YtkfcmjdooldonaaProg
namespace Go.Ve.X
open Go.Proofs Go.Ve Go.RowKit
set_option linter.unusedVariables false
set_option maxRecDepth 100000
inductive El | e5 | z
def El.K : El → Type | .e5 => Int | .z => Unit
def El.sh : El → List TS | .e5 => [.int .u8] | .z => []
def code (n : Nat) : El := match n with | 5 => .e5 | _ => .z
def KK (n : Nat) : Type := (code n).K
def El.toT : (c : El) → c.K → TL KK c.sh | .e5 => fun x => x | .z => fun _ => ()
def El.ofT : (c : El) → TL KK c.sh → c.K | .e5 => fun x => x | .z => fun _ => ()
theorem El.law (c : El) (t : TL KK c.sh) : c.toT (c.ofT t) = t := by cases c <;> rfl
noncomputable def S : Sig where
  K := KK
  sh := fun n => (code n).sh
  toT := fun n => (code n).toT
  ofT := fun n => (code n).ofT
  law := fun n => (code n).law
  u8 := 5
  bt := some 127
  ofB := fun s => Ve.ofB s
  toB := fun l => Ve.toB l
def L : List (Nat × Nat × Ann) := [
  (3, 0, { inL := ⟨[(0, .c (.d (.arr 5))), (1, .c (.d (.arr 5)))], []⟩, outL := ⟨[(0, .c (.d (.bool)))], []⟩, labels := [(14, ⟨[(1, .c (.d (.arr 5))), (9, .c (.d (.int .i64))), (10, .c (.vec 0))], [.vec 5]⟩)] }),
  (9, 0, { inL := ⟨[(0, .c (.d (.arr 5)))], []⟩, outL := ⟨[(0, .c (.d (.str)))], []⟩, labels := [] }),
  (43, 0, { inL := ⟨[(0, .c (.d (.arr 5)))], []⟩, outL := ⟨[(0, .c (.ptr 0 0))], [.var true [.d (.arr 5), .d (.int .i64), .d (.int .u64)]]⟩, labels := [] }),
  (44, 0, { inL := ⟨[(0, .c (.ptr 0 0))], [.var true [.d (.arr 5), .d (.int .i64), .d (.int .u64)]]⟩, outL := ⟨[(0, .c (.d (.str)))], [.var true [.d (.arr 5), .d (.int .i64), .d (.int .u64)]]⟩, labels := [(3, ⟨[(0, .c (.ptr 0 0)), (3, .c (.vec 1)), (4, .c (.d (.int .i64)))], [.var true [.d (.arr 5), .d (.int .i64), .d (.int .u64)], .vec 5]⟩), (14, ⟨[(0, .c (.ptr 0 0)), (3, .c (.vec 1)), (4, .c (.d (.int .i64))), (5, .c (.d (.int .u8))), (6, .c (.d (.int .i64)))], [.var true [.d (.arr 5), .d (.int .i64), .d (.int .u64)], .vec 5]⟩), (20, ⟨[(0, .c (.ptr 0 0)), (3, .c (.vec 1)), (4, .c (.d (.int .i64))), (7, .c (.d (.str))), (8, .c (.d (.int .i64)))], [.var true [.d (.arr 5), .d (.int .i64), .d (.int .u64)], .vec 5]⟩)] }),
  (93, 0, { inL := ⟨[(0, .c (.ptr 0 0)), (1, .c (.d (.int .i64)))], [.var true [.d (.arr 5), .d (.int .i64), .d (.int .u64)]]⟩, outL := ⟨[(0, .c (.d (.int .i64)))], [.var true [.d (.arr 5), .d (.int .i64), .d (.int .u64)]]⟩, labels := [] }),
  (94, 0, { inL := ⟨[(0, .c (.ptr 0 0))], [.var true [.d (.arr 5), .d (.int .i64), .d (.int .u64)]]⟩, outL := ⟨[(0, .c (.d (.int .i64)))], [.var true [.d (.arr 5), .d (.int .i64), .d (.int .u64)]]⟩, labels := [] }),
  (67, 0, { inL := ⟨[(0, .c (.ptr 0 0)), (1, .c (.d (.int .i64)))], [.var true [.d (.arr 5), .d (.int .i64), .d (.int .u64)]]⟩, outL := ⟨[(0, .c (.d (.str)))], [.var true [.d (.arr 5), .d (.int .i64), .d (.int .u64)]]⟩, labels := [(3, ⟨[(0, .c (.ptr 0 0)), (5, .c (.vec 1)), (6, .c (.d (.int .i64)))], [.var true [.d (.arr 5), .d (.int .i64), .d (.int .u64)], .vec 5]⟩)] }),
  (63, 0, { inL := ⟨[(0, .c (.ptr 0 0)), (1, .c (.d (.int .i64)))], [.var true [.d (.arr 5), .d (.int .i64), .d (.int .u64)]]⟩, outL := ⟨[(0, .c (.d (.bool)))], [.var true [.d (.arr 5), .d (.int .i64), .d (.int .u64)]]⟩, labels := [] }),
  (10, 0, { inL := ⟨[(0, .c (.d (.str)))], []⟩, outL := ⟨[(0, .c (.d (.str)))], []⟩, labels := [] }),
  (45, 0, { inL := ⟨[(0, .c (.d (.str)))], []⟩, outL := ⟨[(0, .c (.d (.str)))], []⟩, labels := [(4, ⟨[(0, .c (.d (.str))), (3, .c (.ptr 0 0)), (4, .c (.d (.int .i64))), (5, .c (.d (.int .i64)))], [.var true [.self 0, .vec 1], .vec 5]⟩)] }),
  (99, 0, { inL := ⟨[(0, .c (.d (.str))), (1, .c (.d (.int .i64)))], []⟩, outL := ⟨[(0, .c (.d (.int .i64))), (1, .c (.d (.int .i64)))], []⟩, labels := [(3, ⟨[(0, .c (.d (.str))), (1, .c (.d (.int .i64))), (6, .c (.d (.int .i64))), (7, .c (.d (.int .i64))), (8, .c (.d (.int .i64)))], []⟩), (6, ⟨[(0, .c (.d (.str))), (1, .c (.d (.int .i64))), (6, .c (.d (.int .i64))), (7, .c (.d (.int .i64))), (8, .c (.d (.int .i64))), (9, .c (.d (.int .i64)))], []⟩)] }),
  (101, 0, { inL := ⟨[(0, .c (.d (.str)))], []⟩, outL := ⟨[(0, .c (.d (.str)))], []⟩, labels := [(2, ⟨[(0, .c (.d (.str))), (3, .c (.ptr 0 0))], [.var true [.self 0, .vec 1], .vec 5]⟩)] }),
  (100, 0, { inL := ⟨[(0, .c (.ptr 0 0)), (1, .c (.d (.str)))], [.var true [.self 0, .vec 1], .vec 5]⟩, outL := ⟨[(0, .c (.d (.int .i64))), (1, .c (.any))], [.var true [.self 0, .vec 2], .gone, .vec 5]⟩, labels := [] }),
  (146, 0, { inL := ⟨[(0, .c (.ptr 0 0))], [.var true [.self 0]]⟩, outL := ⟨[], [.var true [.self 0]]⟩, labels := [] }),
  (103, 0, { inL := ⟨[(0, .c (.ptr 0 0))], [.var true [.self 0, .vec 1], .vec 5]⟩, outL := ⟨[(0, .c (.d (.str)))], [.var true [.self 0, .any], .gone]⟩, labels := [] }),
  (102, 0, { inL := ⟨[(0, .c (.d (.int .i64))), (1, .c (.d (.int .i64)))], []⟩, outL := ⟨[(0, .c (.d (.str)))], []⟩, labels := [(3, ⟨[(0, .c (.d (.int .i64))), (5, .c (.vec 0)), (10, .c (.d (.int .i64))), (11, .c (.d (.int .i64)))], [.vec 5]⟩)] }),
  (11, 0, { inL := ⟨[(0, .c (.d (.str)))], []⟩, outL := ⟨[(0, .c (.d (.str))), (1, .c (.d (.bool)))], []⟩, labels := [(3, ⟨[(4, .c (.ptr 0 0)), (5, .c (.vec 1))], [.var true [.d (.str), .d (.bool)], .vec 5]⟩), (11, ⟨[(4, .c (.ptr 0 0)), (5, .c (.vec 1)), (7, .c (.d (.int .i64))), (41, .c (.d (.int .i64))), (42, .c (.d (.int .i64)))], [.var true [.d (.str), .d (.bool)], .vec 5]⟩)] }),
  (46, 0, { inL := ⟨[(0, .c (.ptr 0 0))], [.var true [.d (.str), .d (.bool)]]⟩, outL := ⟨[(0, .c (.d (.int .i64)))], [.var true [.d (.str), .d (.bool)]]⟩, labels := [] }),
  (48, 0, { inL := ⟨[(0, .c (.ptr 0 0)), (1, .c (.d (.int .i64)))], [.var true [.d (.str), .d (.bool)]]⟩, outL := ⟨[(0, .c (.d (.int .i64)))], [.var true [.d (.str), .d (.bool)]]⟩, labels := [] }),
  (47, 0, { inL := ⟨[(0, .c (.ptr 0 0)), (1, .c (.d (.int .i64)))], [.var true [.d (.str), .d (.bool)]]⟩, outL := ⟨[(0, .c (.d (.str)))], [.var true [.d (.str), .d (.bool)]]⟩, labels := [] }),
  (104, 0, { inL := ⟨[(0, .c (.d (.str))), (1, .c (.d (.int .i64))), (2, .c (.d (.int .i64)))], []⟩, outL := ⟨[(0, .c (.d (.str))), (1, .c (.d (.bool)))], []⟩, labels := [] }),
  (49, 0, { inL := ⟨[(0, .c (.d (.int .i64))), (1, .c (.d (.int .i64))), (2, .c (.d (.int .i64)))], []⟩, outL := ⟨[(0, .c (.d (.bool)))], []⟩, labels := [] }),
  (105, 0, { inL := ⟨[(0, .c (.d (.str)))], []⟩, outL := ⟨[(0, .c (.d (.int .u64)))], []⟩, labels := [(3, ⟨[(0, .c (.d (.str))), (3, .c (.d (.int .u64))), (6, .c (.d (.int .i64))), (7, .c (.d (.int .i64)))], []⟩)] })]
noncomputable def X : List (ExtRow S (annOf Try.prog L)) := [⟨146, 0, fun _ => some ()⟩, ⟨103, 0, fun d => textB (d)⟩]
@[reducible] noncomputable def E : Env := { S := S, tt := tdOf Try.prog, ann := annOf Try.prog L, ext := extAt S (annOf Try.prog L) X, eqs := fun t => get ([] : List (Nat × List TS)) t }
theorem rows_ok : rowsOk Try.prog L = true := by kernel_rfl
theorem env_ok : EnvOk Try.prog E := envOk_of (by kernel_rfl) rfl rfl rows_ok (eqs_nil) (by kernel_rfl) rfl ofB_len
  (fun s i x h => by
    obtain ⟨b, h1, h2⟩ := Ve.ofB_at (x := x) h
    exact ⟨b, h1, by rw [← h2]; rfl⟩)
  (fun l ns h hl => toB_row (fun i x hx => by
    obtain ⟨n, h1, h2⟩ := h i x hx
    have h2' : ([.int .u8 x] : List (Cell S.K)) = [.int .u8 n] := h2
    injection h2' with h2' _
    injection h2' with _ h2'
    rw [h1, h2']) hl)
theorem ext146_ok : ∀ (d : TL E.S.K (jobT E.ann ⟨146, 0, none⟩)) r, (fun d : Unit => (some () : Option (Unit))) d = some r → CallOk Try.prog E 146 0 d r := by
  intro (d : Unit) (r : Unit) h
  exact bt_check_ok env_ok rfl Try.h240 Try.h240_x rfl (fun h => by cases h) rfl rfl rfl rfl
theorem ext103_ok : ∀ (d : TL E.S.K (jobT E.ann ⟨103, 0, none⟩)) r, (fun d : List Int => (textB d : Option (ByteArray))) d = some r → CallOk Try.prog E 103 0 d r := by
  intro (d : List Int) (r : ByteArray) h
  exact (by
    obtain ⟨hb, hr⟩ := textB_some h
    subst hr
    exact bt_string_ok env_ok rfl rfl Try.lays169 Try.Builder_Extra_169 rfl (fun h => by cases h) rfl rfl (l := d) rfl rfl hb)
theorem exts_ok : RowsOk Try.prog E X := ⟨ext146_ok, ext103_ok, trivial⟩
theorem oks : OrcOk Try.prog E (Sem E) := Sem_ok env_ok (drawn_ok env_ok) (extOk_of rfl exts_ok)
noncomputable def laws_FnLzShort (code : List Int) (more : List Int) : Option (Bool) := Sem E ⟨3, 0, none⟩ (code, more)
noncomputable def laws_FnLzShort_l14 (more : List Int) (k : Int) (long : List Int) : Option (Bool) := Sem E ⟨3, 0, some 14⟩ (more, k, long)
noncomputable def spec_E8Data (code : List Int) : Option (ByteArray) := Sem E ⟨9, 0, none⟩ code
noncomputable def spec_l00From (code : List Int) : Option (List Int × Int × Int) := Sem E ⟨43, 0, none⟩ code
noncomputable def spec_l18DrawData_wd (s_code : List Int) (s_at : Int) (s_seed : Int) : Option (ByteArray × List Int × Int × Int) := Sem E ⟨44, 0, none⟩ (s_code, s_at, s_seed)
noncomputable def spec_l18DrawData_wd_l3 (k : Int) (s_code : List Int) (s_at : Int) (s_seed : Int) (out : List Int) : Option (ByteArray × List Int × Int × Int) := Sem E ⟨44, 0, some 3⟩ (k, s_code, s_at, s_seed, out)
noncomputable def spec_l18DrawData_wd_l14 (k : Int) (b : Int) (n : Int) (s_code : List Int) (s_at : Int) (s_seed : Int) (out : List Int) : Option (ByteArray × List Int × Int × Int) := Sem E ⟨44, 0, some 14⟩ (k, b, n, s_code, s_at, s_seed, out)
noncomputable def spec_l18DrawData_wd_l20 (k : Int) (unit : ByteArray) (n : Int) (s_code : List Int) (s_at : Int) (s_seed : Int) (out : List Int) : Option (ByteArray × List Int × Int × Int) := Sem E ⟨44, 0, some 20⟩ (k, unit, n, s_code, s_at, s_seed, out)
noncomputable def spec_l00Src_pick_wd (n : Int) (s_code : List Int) (s_at : Int) (s_seed : Int) : Option (Int × List Int × Int × Int) := Sem E ⟨93, 0, none⟩ (n, s_code, s_at, s_seed)
noncomputable def spec_l00Src_next_wd (s_code : List Int) (s_at : Int) (s_seed : Int) : Option (Int × List Int × Int × Int) := Sem E ⟨94, 0, none⟩ (s_code, s_at, s_seed)
noncomputable def spec_l00Src_word_wd (n : Int) (s_code : List Int) (s_at : Int) (s_seed : Int) : Option (ByteArray × List Int × Int × Int) := Sem E ⟨67, 0, none⟩ (n, s_code, s_at, s_seed)
noncomputable def spec_l00Src_word_wd_l3 (k : Int) (s_code : List Int) (s_at : Int) (s_seed : Int) (out : List Int) : Option (ByteArray × List Int × Int × Int) := Sem E ⟨67, 0, some 3⟩ (k, s_code, s_at, s_seed, out)
noncomputable def spec_l00Src_one_wd (n : Int) (s_code : List Int) (s_at : Int) (s_seed : Int) : Option (Bool × List Int × Int × Int) := Sem E ⟨63, 0, none⟩ (n, s_code, s_at, s_seed)
noncomputable def impl_LzEncode (data : ByteArray) : Option (ByteArray) := Sem E ⟨10, 0, none⟩ data
noncomputable def impl_lzEncode (data : ByteArray) : Option (ByteArray) := Sem E ⟨45, 0, none⟩ data
noncomputable def impl_lzEncode_l4 (data : ByteArray) (pending : Int) (at_ : Int) (out_buf : List Int) : Option (ByteArray) := Sem E ⟨45, 0, some 4⟩ (data, pending, at_, out_buf)
noncomputable def impl_matchAt (data : ByteArray) (at_ : Int) : Option (Int × Int) := Sem E ⟨99, 0, none⟩ (data, at_)
noncomputable def impl_matchAt_l3 (data : ByteArray) (at_ : Int) (most : Int) (distance : Int) (d : Int) : Option (Int × Int) := Sem E ⟨99, 0, some 3⟩ (data, at_, most, distance, d)
noncomputable def impl_matchAt_l6 (data : ByteArray) (at_ : Int) (most : Int) (distance : Int) (d : Int) (n : Int) : Option (Int × Int) := Sem E ⟨99, 0, some 6⟩ (data, at_, most, distance, d, n)
noncomputable def impl_literals (s : ByteArray) : Option (ByteArray) := Sem E ⟨101, 0, none⟩ s
noncomputable def impl_literals_l2 (s : ByteArray) (out_buf : List Int) : Option (ByteArray) := Sem E ⟨101, 0, some 2⟩ (s, out_buf)
noncomputable def strings_Builder_WriteString_wv (s : ByteArray) (b_buf : List Int) : Option (Int × List Int) := Sem E ⟨100, 0, none⟩ (s, b_buf)
noncomputable def strings_Builder_copyCheck (_u : Unit) : Option (Unit) := Sem E ⟨146, 0, none⟩ ()
noncomputable def strings_Builder_String (x0 : List Int) : Option (ByteArray) := Sem E ⟨103, 0, none⟩ x0
noncomputable def impl_putBytes (n : Int) (size : Int) : Option (ByteArray) := Sem E ⟨102, 0, none⟩ (n, size)
noncomputable def impl_putBytes_l3 (n : Int) (t10 : Int) (t11 : Int) (out : List Int) : Option (ByteArray) := Sem E ⟨102, 0, some 3⟩ (n, t10, t11, out)
noncomputable def impl_LzDecode (data : ByteArray) : Option (ByteArray × Bool) := Sem E ⟨11, 0, none⟩ data
noncomputable def impl_LzDecode_l3 (d_rest : ByteArray) (d_bad : Bool) (out : List Int) : Option (ByteArray × Bool) := Sem E ⟨11, 0, some 3⟩ (d_rest, d_bad, out)
noncomputable def impl_LzDecode_l11 (distance : Int) (t41 : Int) (t42 : Int) (d_rest : ByteArray) (d_bad : Bool) (out : List Int) : Option (ByteArray × Bool) := Sem E ⟨11, 0, some 11⟩ (distance, t41, t42, d_rest, d_bad, out)
noncomputable def impl_decoder_byte_w (d_rest : ByteArray) (d_bad : Bool) : Option (Int × ByteArray × Bool) := Sem E ⟨46, 0, none⟩ (d_rest, d_bad)
noncomputable def impl_decoder_number_w (size : Int) (d_rest : ByteArray) (d_bad : Bool) : Option (Int × ByteArray × Bool) := Sem E ⟨48, 0, none⟩ (size, d_rest, d_bad)
noncomputable def impl_decoder_take_w (n : Int) (d_rest : ByteArray) (d_bad : Bool) : Option (ByteArray × ByteArray × Bool) := Sem E ⟨47, 0, none⟩ (n, d_rest, d_bad)
noncomputable def impl_cut (s : ByteArray) (at_ : Int) (size : Int) : Option (ByteArray × Bool) := Sem E ⟨104, 0, none⟩ (s, at_, size)
noncomputable def impl_within (n : Int) (low : Int) (high : Int) : Option (Bool) := Sem E ⟨49, 0, none⟩ (n, low, high)
noncomputable def impl_getBits (s : ByteArray) : Option (Int) := Sem E ⟨105, 0, none⟩ s
noncomputable def impl_getBits_l3 (s : ByteArray) (n : Int) (t6 : Int) (t7 : Int) : Option (Int) := Sem E ⟨105, 0, some 3⟩ (s, n, t6, t7)
end Go.Ve.X
