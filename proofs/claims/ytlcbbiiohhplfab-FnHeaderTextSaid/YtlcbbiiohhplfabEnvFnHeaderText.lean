/- The environment of 'FnHeaderText' for the evaluator: kinds of elements, layouts of the functions that it reaches (printed by plan.py). No condition. -/
import Derived.Test.YtlcbbiiohhplfabVeC
import Derived.Test.YtlcbbiiohhplfabLayFnHeaderText
import Derived.Test.YtlcbbiiohhplfabProg
namespace Go.Ve.X
open Go.Proofs Go.Ve Go.RowKit
set_option linter.unusedVariables false
set_option maxRecDepth 100000
inductive El | e2 | e5 | e9 | e98 | z
def El.K : El → Type | .e2 => Int | .e5 => Int | .e9 => ByteArray | .e98 => Int × Int × ByteArray | .z => Unit
def El.sh : El → List TS | .e2 => [.int .i64] | .e5 => [.int .u8] | .e9 => [.str] | .e98 => [.int .i64, .int .i64, .str] | .z => []
def code (n : Nat) : El := match n with | 2 => .e2 | 5 => .e5 | 9 => .e9 | 98 => .e98 | _ => .z
def KK (n : Nat) : Type := (code n).K
def El.toT : (c : El) → c.K → TL KK c.sh | .e2 => fun x => x | .e5 => fun x => x | .e9 => fun x => x | .e98 => fun x => x | .z => fun _ => ()
def El.ofT : (c : El) → TL KK c.sh → c.K | .e2 => fun x => x | .e5 => fun x => x | .e9 => fun x => x | .e98 => fun x => x | .z => fun _ => ()
theorem El.law (c : El) (t : TL KK c.sh) : c.toT (c.ofT t) = t := by cases c <;> rfl
noncomputable def S : Sig where
  K := KK
  sh := fun n => (code n).sh
  toT := fun n => (code n).toT
  ofT := fun n => (code n).ofT
  law := fun n => (code n).law
  u8 := 5
  bt := some 110
  ofB := fun s => Ve.ofB s
  toB := fun l => Ve.toB l
def L : List (Nat × Nat × Ann) := [
  (7, 0, { inL := ⟨[(0, .c (.d (.arr 5))), (1, .c (.d (.arr 5)))], []⟩, outL := ⟨[(0, .c (.d (.bool)))], []⟩, labels := [] }),
  (26, 0, { inL := ⟨[(0, .c (.d (.arr 5)))], []⟩, outL := ⟨[(0, .c (.d (.bool)))], []⟩, labels := [] }),
  (27, 0, { inL := ⟨[(0, .c (.d (.arr 5)))], []⟩, outL := ⟨[(0, .a [.d (.int .i64), .d (.int .i64), .vec 0])], [.vec 98]⟩, labels := [] }),
  (38, 0, { inL := ⟨[(0, .c (.d (.arr 5)))], []⟩, outL := ⟨[(0, .c (.ptr 0 0))], [.var true [.d (.arr 5), .d (.int .i64), .d (.int .u64)]]⟩, labels := [] }),
  (62, 0, { inL := ⟨[(0, .c (.ptr 0 0)), (1, .c (.d (.int .i64)))], [.var true [.d (.arr 5), .d (.int .i64), .d (.int .u64)]]⟩, outL := ⟨[(0, .a [.d (.int .i64), .d (.int .i64), .vec 1])], [.var true [.d (.arr 5), .d (.int .i64), .d (.int .u64)], .vec 98]⟩, labels := [(3, ⟨[(0, .c (.ptr 0 0)), (1, .c (.d (.int .i64))), (4, .c (.ptr 1 0)), (5, .c (.ptr 2 0)), (6, .c (.d (.int .i64)))], [.var true [.d (.arr 5), .d (.int .i64), .d (.int .u64)], .var true [.d (.int .i64), .d (.int .i64), .vec 3], .var true [.d (.int .i64), .d (.int .i64), .vec 4], .vec 98, .vec 98]⟩), (13, ⟨[(0, .c (.ptr 0 0)), (4, .c (.ptr 1 0)), (5, .c (.ptr 2 0))], [.var true [.d (.arr 5), .d (.int .i64), .d (.int .u64)], .var true [.d (.int .i64), .d (.int .i64), .vec 3], .var true [.d (.int .i64), .d (.int .i64), .vec 4], .vec 98, .vec 98]⟩)] }),
  (77, 0, { inL := ⟨[(0, .c (.ptr 0 0)), (1, .c (.d (.int .i64)))], [.var true [.d (.arr 5), .d (.int .i64), .d (.int .u64)]]⟩, outL := ⟨[(0, .c (.d (.int .i64)))], [.var true [.d (.arr 5), .d (.int .i64), .d (.int .u64)]]⟩, labels := [] }),
  (79, 0, { inL := ⟨[(0, .c (.ptr 0 0))], [.var true [.d (.arr 5), .d (.int .i64), .d (.int .u64)]]⟩, outL := ⟨[(0, .c (.d (.int .i64)))], [.var true [.d (.arr 5), .d (.int .i64), .d (.int .u64)]]⟩, labels := [] }),
  (78, 0, { inL := ⟨[(0, .c (.ptr 0 0)), (1, .c (.d (.int .i64)))], [.var true [.d (.arr 5), .d (.int .i64), .d (.int .u64)]]⟩, outL := ⟨[(0, .c (.d (.str)))], [.var true [.d (.arr 5), .d (.int .i64), .d (.int .u64)]]⟩, labels := [(3, ⟨[(0, .c (.ptr 0 0)), (5, .c (.vec 1)), (6, .c (.d (.int .i64)))], [.var true [.d (.arr 5), .d (.int .i64), .d (.int .u64)], .vec 5]⟩)] }),
  (67, 0, { inL := ⟨[(0, .c (.ptr 0 0)), (1, .c (.d (.int .i64)))], [.var true [.d (.arr 5), .d (.int .i64), .d (.int .u64)]]⟩, outL := ⟨[(0, .c (.d (.bool)))], [.var true [.d (.arr 5), .d (.int .i64), .d (.int .u64)]]⟩, labels := [] }),
  (98, 0, { inL := ⟨[(0, .c (.ptr 0 0)), (1, .c (.d (.arr 2)))], [.var true [.d (.arr 5), .d (.int .i64), .d (.int .u64)]]⟩, outL := ⟨[(0, .c (.d (.int .i64)))], [.var true [.d (.arr 5), .d (.int .i64), .d (.int .u64)]]⟩, labels := [] }),
  (97, 0, { inL := ⟨[(0, .c (.d (.int .i64)))], []⟩, outL := ⟨[(0, .c (.d (.str)))], []⟩, labels := [] }),
  (115, 0, { inL := ⟨[(0, .c (.d (.int .i64))), (1, .c (.d (.int .i64)))], []⟩, outL := ⟨[(0, .c (.d (.int .i64)))], []⟩, labels := [] }),
  (28, 0, { inL := ⟨[(0, .a [.d (.int .i64), .d (.int .i64), .d (.arr 98)])], []⟩, outL := ⟨[(0, .c (.d (.str)))], []⟩, labels := [] }),
  (63, 0, { inL := ⟨[(0, .a [.d (.int .i64), .d (.int .i64), .d (.arr 98)])], []⟩, outL := ⟨[(0, .c (.d (.bool)))], []⟩, labels := [] }),
  (43, 0, { inL := ⟨[(0, .c (.d (.int .i64))), (1, .c (.d (.int .i64))), (2, .c (.d (.int .i64)))], []⟩, outL := ⟨[(0, .c (.d (.bool)))], []⟩, labels := [] }),
  (99, 0, { inL := ⟨[(0, .c (.d (.arr 98))), (1, .c (.fn 100 []))], []⟩, outL := ⟨[(0, .c (.d (.bool)))], []⟩, labels := [] }),
  (116, 0, { inL := ⟨[(0, .c (.d (.arr 98))), (1, .c (.fn 100 []))], []⟩, outL := ⟨[(0, .c (.d (.int .i64)))], []⟩, labels := [(2, ⟨[(0, .c (.d (.arr 98))), (1, .c (.fn 100 [])), (7, .c (.d (.int .i64))), (8, .c (.d (.int .i64)))], []⟩)] }),
  (100, 0, { inL := ⟨[(0, .a [.d (.int .i64), .d (.int .i64), .d (.str)])], []⟩, outL := ⟨[(0, .c (.d (.bool)))], []⟩, labels := [] }),
  (101, 0, { inL := ⟨[(0, .a [.d (.int .i64), .d (.int .i64), .d (.str)])], []⟩, outL := ⟨[(0, .c (.d (.bool)))], []⟩, labels := [] }),
  (64, 0, { inL := ⟨[(0, .a [.d (.int .i64), .d (.int .i64), .d (.arr 98)])], []⟩, outL := ⟨[(0, .c (.d (.str)))], []⟩, labels := [(4, ⟨[(3, .c (.ptr 0 0)), (20, .c (.d (.arr 98))), (21, .c (.d (.int .i64))), (22, .c (.d (.int .i64)))], [.var true [.self 0, .vec 1], .vec 5]⟩)] }),
  (75, 0, { inL := ⟨[(0, .c (.d (.int .i64))), (1, .c (.d (.int .i64)))], []⟩, outL := ⟨[(0, .c (.d (.str)))], []⟩, labels := [(3, ⟨[(0, .c (.d (.int .i64))), (5, .c (.vec 0)), (10, .c (.d (.int .i64))), (11, .c (.d (.int .i64)))], [.vec 5]⟩)] }),
  (81, 0, { inL := ⟨[(0, .c (.ptr 0 0)), (1, .c (.d (.str)))], [.var true [.self 0, .vec 1], .vec 5]⟩, outL := ⟨[(0, .c (.d (.int .i64))), (1, .c (.any))], [.var true [.self 0, .vec 2], .gone, .vec 5]⟩, labels := [] }),
  (108, 0, { inL := ⟨[(0, .c (.ptr 0 0))], [.var true [.self 0]]⟩, outL := ⟨[], [.var true [.self 0]]⟩, labels := [] }),
  (83, 0, { inL := ⟨[(0, .c (.ptr 0 0))], [.var true [.self 0, .vec 1], .vec 5]⟩, outL := ⟨[(0, .c (.d (.str)))], [.var true [.self 0, .any], .gone]⟩, labels := [] }),
  (29, 0, { inL := ⟨[(0, .a [.d (.int .i64), .d (.int .i64), .d (.arr 98)])], []⟩, outL := ⟨[(0, .c (.d (.bool)))], []⟩, labels := [] }),
  (65, 0, { inL := ⟨[(0, .a [.d (.int .i64), .d (.int .i64), .d (.arr 98)])], []⟩, outL := ⟨[(0, .c (.d (.bool)))], []⟩, labels := [(4, ⟨[(1, .c (.ptr 0 0)), (3, .c (.d (.int .i64)))], [.var true [.d (.int .i64), .d (.int .i64), .d (.arr 98)]]⟩)] }),
  (53, 0, { inL := ⟨[(0, .c (.d (.int .i64))), (1, .c (.d (.int .i64))), (2, .c (.d (.int .i64)))], []⟩, outL := ⟨[(0, .c (.d (.bool)))], []⟩, labels := [] }),
  (30, 0, { inL := ⟨[(0, .c (.d (.str)))], []⟩, outL := ⟨[(0, .a [.d (.int .i64), .d (.int .i64), .vec 0]), (1, .c (.d (.bool)))], [.vec 98]⟩, labels := [(4, ⟨[(2, .c (.ptr 0 0)), (4, .c (.ptr 1 0)), (5, .c (.ptr 2 0)), (6, .c (.d (.int .i64)))], [.var true [.d (.int .i64), .d (.int .i64), .vec 3], .var true [.d (.str), .d (.bool)], .var true [.d (.int .i64), .d (.int .i64), .vec 4], .vec 98, .vec 98]⟩)] }),
  (34, 0, { inL := ⟨[(0, .c (.ptr 0 0))], [.var true [.d (.str), .d (.bool)]]⟩, outL := ⟨[(0, .c (.d (.int .i64)))], [.var true [.d (.str), .d (.bool)]]⟩, labels := [] }),
  (42, 0, { inL := ⟨[(0, .c (.ptr 0 0)), (1, .c (.d (.int .i64)))], [.var true [.d (.str), .d (.bool)]]⟩, outL := ⟨[(0, .c (.d (.int .i64)))], [.var true [.d (.str), .d (.bool)]]⟩, labels := [] }),
  (41, 0, { inL := ⟨[(0, .c (.ptr 0 0)), (1, .c (.d (.int .i64)))], [.var true [.d (.str), .d (.bool)]]⟩, outL := ⟨[(0, .c (.d (.str)))], [.var true [.d (.str), .d (.bool)]]⟩, labels := [] }),
  (84, 0, { inL := ⟨[(0, .c (.d (.str))), (1, .c (.d (.int .i64))), (2, .c (.d (.int .i64)))], []⟩, outL := ⟨[(0, .c (.d (.str))), (1, .c (.d (.bool)))], []⟩, labels := [] }),
  (85, 0, { inL := ⟨[(0, .c (.d (.str)))], []⟩, outL := ⟨[(0, .c (.d (.int .u64)))], []⟩, labels := [(3, ⟨[(0, .c (.d (.str))), (3, .c (.d (.int .u64))), (6, .c (.d (.int .i64))), (7, .c (.d (.int .i64)))], []⟩)] }),
  (31, 0, { inL := ⟨[(0, .a [.d (.int .i64), .d (.int .i64), .d (.arr 98)]), (1, .a [.d (.int .i64), .d (.int .i64), .d (.arr 98)])], []⟩, outL := ⟨[(0, .c (.d (.bool)))], []⟩, labels := [(4, ⟨[(2, .c (.ptr 0 0)), (3, .c (.ptr 1 0)), (5, .c (.d (.int .i64)))], [.var true [.d (.int .i64), .d (.int .i64), .d (.arr 98)], .var true [.d (.int .i64), .d (.int .i64), .d (.arr 98)]]⟩)] }),
  (32, 0, { inL := ⟨[(0, .c (.d (.arr 5)))], []⟩, outL := ⟨[(0, .c (.d (.str)))], []⟩, labels := [] }),
  (66, 0, { inL := ⟨[(0, .a [.d (.int .i64), .d (.int .i64), .d (.arr 98)])], []⟩, outL := ⟨[(0, .c (.d (.str)))], []⟩, labels := [] }),
  (102, 0, { inL := ⟨[(0, .a [.d (.int .i64), .d (.int .i64), .d (.arr 98)])], []⟩, outL := ⟨[(0, .c (.d (.str)))], []⟩, labels := [(3, ⟨[(1, .c (.ptr 0 0)), (3, .c (.d (.str))), (4, .c (.d (.int .i64)))], [.var true [.d (.int .i64), .d (.int .i64), .d (.arr 98)]]⟩)] }),
  (117, 0, { inL := ⟨[(0, .c (.d (.int .i64)))], []⟩, outL := ⟨[(0, .c (.d (.str)))], []⟩, labels := [] }),
  (118, 0, { inL := ⟨[(0, .c (.d (.int .i64))), (1, .c (.d (.int .i64))), (2, .c (.d (.bool)))], []⟩, outL := ⟨[(0, .c (.d (.str)))], []⟩, labels := [(3, ⟨[(0, .c (.d (.int .i64))), (1, .c (.d (.int .i64))), (2, .c (.d (.bool))), (7, .c (.d (.str))), (8, .c (.d (.int .i64)))], []⟩)] }),
  (68, 0, { inL := ⟨[(0, .c (.ptr 0 0)), (1, .c (.d (.str))), (2, .c (.d (.arr 9)))], [.var true [.d (.arr 5), .d (.int .i64), .d (.int .u64)]]⟩, outL := ⟨[(0, .c (.d (.str)))], [.var true [.d (.arr 5), .d (.int .i64), .d (.int .u64)]]⟩, labels := [] }),
  (103, 0, { inL := ⟨[(0, .c (.ptr 0 0)), (1, .c (.d (.arr 9)))], [.var true [.d (.arr 5), .d (.int .i64), .d (.int .u64)]]⟩, outL := ⟨[(0, .c (.d (.str)))], [.var true [.d (.arr 5), .d (.int .i64), .d (.int .u64)]]⟩, labels := [] })]
noncomputable def X : List (ExtRow S (annOf Try.prog L)) := [⟨108, 0, fun _ => some ()⟩, ⟨83, 0, fun d => textB (d)⟩]
@[reducible] noncomputable def E : Env := { S := S, tt := tdOf Try.prog, ann := annOf Try.prog L, ext := extAt S (annOf Try.prog L) X, eqs := fun t => get ([(98, [.int .i64, .int .i64, .str])] : List (Nat × List TS)) t }
theorem rows_ok : rowsOk Try.prog L = true := by kernel_rfl
theorem env_ok : EnvOk Try.prog E := envOk_of (by kernel_rfl) rfl rfl rows_ok ((eqs_cons (eqsOk_flat Try.underlying98 (by kernel_rfl)) eqs_nil)) (by kernel_rfl) rfl ofB_len
  (fun s i x h => by
    obtain ⟨b, h1, h2⟩ := Ve.ofB_at (x := x) h
    exact ⟨b, h1, by rw [← h2]; rfl⟩)
  (fun l ns h hl => toB_row (fun i x hx => by
    obtain ⟨n, h1, h2⟩ := h i x hx
    have h2' : ([.int .u8 x] : List (Cell S.K)) = [.int .u8 n] := h2
    injection h2' with h2' _
    injection h2' with _ h2'
    rw [h1, h2']) hl)
theorem ext108_ok : ∀ (d : TL E.S.K (jobT E.ann ⟨108, 0, none⟩)) r, (fun d : Unit => (some () : Option (Unit))) d = some r → CallOk Try.prog E 108 0 d r := by
  intro (d : Unit) (r : Unit) h
  exact bt_check_ok env_ok rfl Try.h240 Try.h240_x rfl (fun h => by cases h) rfl rfl rfl rfl
theorem ext83_ok : ∀ (d : TL E.S.K (jobT E.ann ⟨83, 0, none⟩)) r, (fun d : List Int => (textB d : Option (ByteArray))) d = some r → CallOk Try.prog E 83 0 d r := by
  intro (d : List Int) (r : ByteArray) h
  exact (by
    obtain ⟨hb, hr⟩ := textB_some h
    subst hr
    exact bt_string_ok env_ok rfl rfl Try.lays169 Try.Builder_Extra_169 rfl (fun h => by cases h) rfl rfl (l := d) rfl rfl hb)
theorem exts_ok : RowsOk Try.prog E X := ⟨ext108_ok, ext83_ok, trivial⟩
theorem oks : OrcOk Try.prog E (Sem E) := Sem_ok env_ok (drawn_ok env_ok) (extOk_of rfl exts_ok)
noncomputable def laws_FnHeaderText (code : List Int) (more : List Int) : Option (Bool) := Sem E ⟨7, 0, none⟩ (code, more)
noncomputable def laws_b2Long (code : List Int) : Option (Bool) := Sem E ⟨26, 0, none⟩ code
noncomputable def spec_DrawEncodeHeader (code : List Int) : Option (Int × Int × List (Int × Int × ByteArray)) := Sem E ⟨27, 0, none⟩ code
noncomputable def spec_l00From (code : List Int) : Option (List Int × Int × Int) := Sem E ⟨38, 0, none⟩ code
noncomputable def spec_l14DrawHeader_wd (n : Int) (s_code : List Int) (s_at : Int) (s_seed : Int) : Option (Int × Int × List Int × Int × Int × List (Int × Int × ByteArray)) := Sem E ⟨62, 0, none⟩ (n, s_code, s_at, s_seed)
noncomputable def spec_l14DrawHeader_wd_l3 (n : Int) (k : Int) (s_code : List Int) (s_at : Int) (s_seed : Int) (t4_Kind : Int) (t4_Refs : Int) (h_Kind : Int) (h_Refs : Int) (t4_Messages : List (Int × Int × ByteArray)) (h_Messages : List (Int × Int × ByteArray)) : Option (Int × Int × List Int × Int × Int × List (Int × Int × ByteArray)) := Sem E ⟨62, 0, some 3⟩ (n, k, s_code, s_at, s_seed, t4_Kind, t4_Refs, h_Kind, h_Refs, t4_Messages, h_Messages)
noncomputable def spec_l14DrawHeader_wd_l13 (s_code : List Int) (s_at : Int) (s_seed : Int) (t4_Kind : Int) (t4_Refs : Int) (h_Kind : Int) (h_Refs : Int) (t4_Messages : List (Int × Int × ByteArray)) (h_Messages : List (Int × Int × ByteArray)) : Option (Int × Int × List Int × Int × Int × List (Int × Int × ByteArray)) := Sem E ⟨62, 0, some 13⟩ (s_code, s_at, s_seed, t4_Kind, t4_Refs, h_Kind, h_Refs, t4_Messages, h_Messages)
noncomputable def spec_l00Src_pick_wd (n : Int) (s_code : List Int) (s_at : Int) (s_seed : Int) : Option (Int × List Int × Int × Int) := Sem E ⟨77, 0, none⟩ (n, s_code, s_at, s_seed)
noncomputable def spec_l00Src_next_wd (s_code : List Int) (s_at : Int) (s_seed : Int) : Option (Int × List Int × Int × Int) := Sem E ⟨79, 0, none⟩ (s_code, s_at, s_seed)
noncomputable def spec_l00Src_word_wd (n : Int) (s_code : List Int) (s_at : Int) (s_seed : Int) : Option (ByteArray × List Int × Int × Int) := Sem E ⟨78, 0, none⟩ (n, s_code, s_at, s_seed)
noncomputable def spec_l00Src_word_wd_l3 (k : Int) (s_code : List Int) (s_at : Int) (s_seed : Int) (out : List Int) : Option (ByteArray × List Int × Int × Int) := Sem E ⟨78, 0, some 3⟩ (k, s_code, s_at, s_seed, out)
noncomputable def spec_l00Src_one_wd (n : Int) (s_code : List Int) (s_at : Int) (s_seed : Int) : Option (Bool × List Int × Int × Int) := Sem E ⟨67, 0, none⟩ (n, s_code, s_at, s_seed)
noncomputable def spec_l00Src_among_wdd (list : List Int) (s_code : List Int) (s_at : Int) (s_seed : Int) : Option (Int × List Int × Int × Int) := Sem E ⟨98, 0, none⟩ (list, s_code, s_at, s_seed)
noncomputable def spec_l03Zeros (n : Int) : Option (ByteArray) := Sem E ⟨97, 0, none⟩ n
noncomputable def spec_l00Max (a : Int) (b : Int) : Option (Int) := Sem E ⟨115, 0, none⟩ (a, b)
noncomputable def impl_EncodeHeader (h_Kind : Int) (h_Refs : Int) (h_Messages : List (Int × Int × ByteArray)) : Option (ByteArray) := Sem E ⟨28, 0, none⟩ (h_Kind, h_Refs, h_Messages)
noncomputable def impl_ValidHeader (h_Kind : Int) (h_Refs : Int) (h_Messages : List (Int × Int × ByteArray)) : Option (Bool) := Sem E ⟨63, 0, none⟩ (h_Kind, h_Refs, h_Messages)
noncomputable def impl_within (n : Int) (low : Int) (high : Int) : Option (Bool) := Sem E ⟨43, 0, none⟩ (n, low, high)
noncomputable def slices_ContainsFunc_simpl_Message_impl_Message_d_ValidHeader_1 (s : List (Int × Int × ByteArray)) : Option (Bool) := Sem E ⟨99, 0, none⟩ s
noncomputable def slices_IndexFunc_simpl_Message_impl_Message_d_ValidHeader_1 (s : List (Int × Int × ByteArray)) : Option (Int) := Sem E ⟨116, 0, none⟩ s
noncomputable def slices_IndexFunc_simpl_Message_impl_Message_d_ValidHeader_1_l2 (s : List (Int × Int × ByteArray)) (t7 : Int) (t8 : Int) : Option (Int) := Sem E ⟨116, 0, some 2⟩ (s, t7, t8)
noncomputable def impl_ValidHeader_1 (m_Kind : Int) (m_Flags : Int) (m_Data : ByteArray) : Option (Bool) := Sem E ⟨100, 0, none⟩ (m_Kind, m_Flags, m_Data)
noncomputable def impl_messageOk (m_Kind : Int) (m_Flags : Int) (m_Data : ByteArray) : Option (Bool) := Sem E ⟨101, 0, none⟩ (m_Kind, m_Flags, m_Data)
noncomputable def impl_Header_encode (h_Kind : Int) (h_Refs : Int) (h_Messages : List (Int × Int × ByteArray)) : Option (ByteArray) := Sem E ⟨64, 0, none⟩ (h_Kind, h_Refs, h_Messages)
noncomputable def impl_Header_encode_l4 (t20 : List (Int × Int × ByteArray)) (t21 : Int) (t22 : Int) (b_buf : List Int) : Option (ByteArray) := Sem E ⟨64, 0, some 4⟩ (t20, t21, t22, b_buf)
noncomputable def impl_putBytes (n : Int) (size : Int) : Option (ByteArray) := Sem E ⟨75, 0, none⟩ (n, size)
noncomputable def impl_putBytes_l3 (n : Int) (t10 : Int) (t11 : Int) (out : List Int) : Option (ByteArray) := Sem E ⟨75, 0, some 3⟩ (n, t10, t11, out)
noncomputable def strings_Builder_WriteString_wv (s : ByteArray) (b_buf : List Int) : Option (Int × List Int) := Sem E ⟨81, 0, none⟩ (s, b_buf)
noncomputable def strings_Builder_copyCheck (_u : Unit) : Option (Unit) := Sem E ⟨108, 0, none⟩ ()
noncomputable def strings_Builder_String (x0 : List Int) : Option (ByteArray) := Sem E ⟨83, 0, none⟩ x0
noncomputable def spec_ValidHeader (h_Kind : Int) (h_Refs : Int) (h_Messages : List (Int × Int × ByteArray)) : Option (Bool) := Sem E ⟨29, 0, none⟩ (h_Kind, h_Refs, h_Messages)
noncomputable def spec_l14Ok (h_Kind : Int) (h_Refs : Int) (h_Messages : List (Int × Int × ByteArray)) : Option (Bool) := Sem E ⟨65, 0, none⟩ (h_Kind, h_Refs, h_Messages)
noncomputable def spec_l14Ok_l4 (i : Int) (h_Kind : Int) (h_Refs : Int) (h_Messages : List (Int × Int × ByteArray)) : Option (Bool) := Sem E ⟨65, 0, some 4⟩ (i, h_Kind, h_Refs, h_Messages)
noncomputable def spec_l00In (n : Int) (low : Int) (high : Int) : Option (Bool) := Sem E ⟨53, 0, none⟩ (n, low, high)
noncomputable def impl_DecodeHeader (s : ByteArray) : Option (Int × Int × Bool × List (Int × Int × ByteArray)) := Sem E ⟨30, 0, none⟩ s
noncomputable def impl_DecodeHeader_l4 (n : Int) (t2_Kind : Int) (t2_Refs : Int) (d_rest : ByteArray) (d_bad : Bool) (h_Kind : Int) (h_Refs : Int) (t2_Messages : List (Int × Int × ByteArray)) (h_Messages : List (Int × Int × ByteArray)) : Option (Int × Int × Bool × List (Int × Int × ByteArray)) := Sem E ⟨30, 0, some 4⟩ (n, t2_Kind, t2_Refs, d_rest, d_bad, h_Kind, h_Refs, t2_Messages, h_Messages)
noncomputable def impl_decoder_byte_w (d_rest : ByteArray) (d_bad : Bool) : Option (Int × ByteArray × Bool) := Sem E ⟨34, 0, none⟩ (d_rest, d_bad)
noncomputable def impl_decoder_number_w (size : Int) (d_rest : ByteArray) (d_bad : Bool) : Option (Int × ByteArray × Bool) := Sem E ⟨42, 0, none⟩ (size, d_rest, d_bad)
noncomputable def impl_decoder_take_w (n : Int) (d_rest : ByteArray) (d_bad : Bool) : Option (ByteArray × ByteArray × Bool) := Sem E ⟨41, 0, none⟩ (n, d_rest, d_bad)
noncomputable def impl_cut (s : ByteArray) (at_ : Int) (size : Int) : Option (ByteArray × Bool) := Sem E ⟨84, 0, none⟩ (s, at_, size)
noncomputable def impl_getBits (s : ByteArray) : Option (Int) := Sem E ⟨85, 0, none⟩ s
noncomputable def impl_getBits_l3 (s : ByteArray) (n : Int) (t6 : Int) (t7 : Int) : Option (Int) := Sem E ⟨85, 0, some 3⟩ (s, n, t6, t7)
noncomputable def spec_SameHeader (a_Kind : Int) (a_Refs : Int) (a_Messages : List (Int × Int × ByteArray)) (b_Kind : Int) (b_Refs : Int) (b_Messages : List (Int × Int × ByteArray)) : Option (Bool) := Sem E ⟨31, 0, none⟩ (a_Kind, a_Refs, a_Messages, b_Kind, b_Refs, b_Messages)
noncomputable def spec_SameHeader_l4 (i : Int) (a_Kind : Int) (a_Refs : Int) (a_Messages : List (Int × Int × ByteArray)) (b_Kind : Int) (b_Refs : Int) (b_Messages : List (Int × Int × ByteArray)) : Option (Bool) := Sem E ⟨31, 0, some 4⟩ (i, a_Kind, a_Refs, a_Messages, b_Kind, b_Refs, b_Messages)
noncomputable def spec_DrawDecodeHeader (code : List Int) : Option (ByteArray) := Sem E ⟨32, 0, none⟩ code
noncomputable def spec_EncodeHeader (h_Kind : Int) (h_Refs : Int) (h_Messages : List (Int × Int × ByteArray)) : Option (ByteArray) := Sem E ⟨66, 0, none⟩ (h_Kind, h_Refs, h_Messages)
noncomputable def spec_l14Encode (h_Kind : Int) (h_Refs : Int) (h_Messages : List (Int × Int × ByteArray)) : Option (ByteArray) := Sem E ⟨102, 0, none⟩ (h_Kind, h_Refs, h_Messages)
noncomputable def spec_l14Encode_l3 (out : ByteArray) (i : Int) (h_Kind : Int) (h_Refs : Int) (h_Messages : List (Int × Int × ByteArray)) : Option (ByteArray) := Sem E ⟨102, 0, some 3⟩ (out, i, h_Kind, h_Refs, h_Messages)
noncomputable def spec_l02Byte (n : Int) : Option (ByteArray) := Sem E ⟨117, 0, none⟩ n
noncomputable def spec_l02Put (n : Int) (size : Int) (big : Bool) : Option (ByteArray) := Sem E ⟨118, 0, none⟩ (n, size, big)
noncomputable def spec_l02Put_l3 (n : Int) (size : Int) (big : Bool) (out : ByteArray) (k : Int) : Option (ByteArray) := Sem E ⟨118, 0, some 3⟩ (n, size, big, out, k)
noncomputable def spec_l02Bend_wdd (t : ByteArray) (with_ : List ByteArray) (s_code : List Int) (s_at : Int) (s_seed : Int) : Option (ByteArray × List Int × Int × Int) := Sem E ⟨68, 0, none⟩ (t, with_, s_code, s_at, s_seed)
noncomputable def spec_l00Src_text_wdd (list : List ByteArray) (s_code : List Int) (s_at : Int) (s_seed : Int) : Option (ByteArray × List Int × Int × Int) := Sem E ⟨103, 0, none⟩ (list, s_code, s_at, s_seed)
end Go.Ve.X
