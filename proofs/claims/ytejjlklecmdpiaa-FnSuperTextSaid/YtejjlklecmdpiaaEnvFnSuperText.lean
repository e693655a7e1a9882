/- The environment of 'FnSuperText' for the evaluator: kinds of elements, layouts of the functions that it reaches (printed by plan.py). No condition. -/
import Derived.Test.YtejjlklecmdpiaaVeC
import Derived.Test.YtejjlklecmdpiaaLayFnSuperText
import Derived.Test.YtejjlklecmdpiaaProg
namespace Go.Ve.X
open Go.Proofs Go.Ve Go.RowKit
set_option linter.unusedVariables false
set_option maxRecDepth 100000
inductive El | e2 | e5 | z
def El.K : El → Type | .e2 => Int | .e5 => Int | .z => Unit
def El.sh : El → List TS | .e2 => [.int .i64] | .e5 => [.int .u8] | .z => []
def code (n : Nat) : El := match n with | 2 => .e2 | 5 => .e5 | _ => .z
def KK (n : Nat) : Type := (code n).K
def El.toT : (c : El) → c.K → TL KK c.sh | .e2 => fun x => x | .e5 => fun x => x | .z => fun _ => ()
def El.ofT : (c : El) → TL KK c.sh → c.K | .e2 => fun x => x | .e5 => fun x => x | .z => fun _ => ()
theorem El.law (c : El) (t : TL KK c.sh) : c.toT (c.ofT t) = t := by cases c <;> rfl
noncomputable def S : Sig where
  K := KK
  sh := fun n => (code n).sh
  toT := fun n => (code n).toT
  ofT := fun n => (code n).ofT
  law := fun n => (code n).law
  u8 := 5
  ofB := fun s => Ve.ofB s
  toB := fun l => Ve.toB l
def L : List (Nat × Nat × Ann) := [
  (7, 0, { inL := ⟨[(0, .c (.d (.arr 5))), (1, .c (.d (.arr 5)))], []⟩, outL := ⟨[(0, .c (.d (.bool)))], []⟩, labels := [] }),
  (9, 0, { inL := ⟨[(0, .c (.d (.arr 5)))], []⟩, outL := ⟨[(0, .c (.d (.bool)))], []⟩, labels := [] }),
  (36, 0, { inL := ⟨[(0, .c (.d (.arr 5)))], []⟩, outL := ⟨[(0, .a [.d (.int .i64), .d (.int .i64), .d (.int .i64), .d (.int .i64)])], []⟩, labels := [] }),
  (41, 0, { inL := ⟨[(0, .c (.d (.arr 5)))], []⟩, outL := ⟨[(0, .c (.ptr 0 0))], [.var true [.d (.arr 5), .d (.int .i64), .d (.int .u64)]]⟩, labels := [] }),
  (92, 0, { inL := ⟨[(0, .c (.ptr 0 0)), (1, .c (.d (.int .i64)))], [.var true [.d (.arr 5), .d (.int .i64), .d (.int .u64)]]⟩, outL := ⟨[(0, .a [.d (.int .i64), .d (.int .i64), .d (.int .i64), .d (.int .i64)])], [.var true [.d (.arr 5), .d (.int .i64), .d (.int .u64)]]⟩, labels := [] }),
  (97, 0, { inL := ⟨[(0, .c (.ptr 0 0)), (1, .c (.d (.arr 2)))], [.var true [.d (.arr 5), .d (.int .i64), .d (.int .u64)]]⟩, outL := ⟨[(0, .c (.d (.int .i64)))], [.var true [.d (.arr 5), .d (.int .i64), .d (.int .u64)]]⟩, labels := [] }),
  (93, 0, { inL := ⟨[(0, .c (.ptr 0 0)), (1, .c (.d (.int .i64)))], [.var true [.d (.arr 5), .d (.int .i64), .d (.int .u64)]]⟩, outL := ⟨[(0, .c (.d (.int .i64)))], [.var true [.d (.arr 5), .d (.int .i64), .d (.int .u64)]]⟩, labels := [] }),
  (94, 0, { inL := ⟨[(0, .c (.ptr 0 0))], [.var true [.d (.arr 5), .d (.int .i64), .d (.int .u64)]]⟩, outL := ⟨[(0, .c (.d (.int .i64)))], [.var true [.d (.arr 5), .d (.int .i64), .d (.int .u64)]]⟩, labels := [] }),
  (43, 0, { inL := ⟨[(0, .c (.ptr 0 0)), (1, .c (.d (.int .i64)))], [.var true [.d (.arr 5), .d (.int .i64), .d (.int .u64)]]⟩, outL := ⟨[(0, .c (.d (.bool)))], [.var true [.d (.arr 5), .d (.int .i64), .d (.int .u64)]]⟩, labels := [] }),
  (37, 0, { inL := ⟨[(0, .a [.d (.int .i64), .d (.int .i64), .d (.int .i64), .d (.int .i64)])], []⟩, outL := ⟨[(0, .c (.d (.bool)))], []⟩, labels := [] }),
  (59, 0, { inL := ⟨[(0, .c (.d (.int .i64))), (1, .c (.d (.int .i64))), (2, .c (.d (.int .i64)))], []⟩, outL := ⟨[(0, .c (.d (.bool)))], []⟩, labels := [] }),
  (38, 0, { inL := ⟨[(0, .a [.d (.int .i64), .d (.int .i64), .d (.int .i64), .d (.int .i64)])], []⟩, outL := ⟨[(0, .c (.d (.str)))], []⟩, labels := [] }),
  (73, 0, { inL := ⟨[(0, .a [.d (.int .i64), .d (.int .i64), .d (.int .i64), .d (.int .i64)])], []⟩, outL := ⟨[(0, .c (.d (.bool)))], []⟩, labels := [] }),
  (63, 0, { inL := ⟨[(0, .c (.d (.int .i64))), (1, .c (.d (.int .i64))), (2, .c (.d (.int .i64)))], []⟩, outL := ⟨[(0, .c (.d (.bool)))], []⟩, labels := [] }),
  (74, 0, { inL := ⟨[(0, .a [.d (.int .i64), .d (.int .i64), .d (.int .i64), .d (.int .i64)])], []⟩, outL := ⟨[(0, .c (.d (.str)))], []⟩, labels := [] }),
  (115, 0, { inL := ⟨[(0, .c (.d (.int .i64))), (1, .c (.d (.int .i64)))], []⟩, outL := ⟨[(0, .c (.d (.str)))], []⟩, labels := [(3, ⟨[(0, .c (.d (.int .i64))), (5, .c (.vec 0)), (10, .c (.d (.int .i64))), (11, .c (.d (.int .i64)))], [.vec 5]⟩)] }),
  (116, 0, { inL := ⟨[(0, .c (.d (.str))), (1, .c (.d (.int .i64)))], []⟩, outL := ⟨[(0, .c (.d (.str)))], []⟩, labels := [] }),
  (125, 0, { inL := ⟨[(0, .c (.d (.int .i64)))], []⟩, outL := ⟨[(0, .c (.d (.str)))], []⟩, labels := [] }),
  (126, 0, { inL := ⟨[(0, .c (.d (.str))), (1, .c (.d (.int .i64)))], []⟩, outL := ⟨[(0, .c (.d (.str)))], []⟩, labels := [] }),
  (23, 0, { inL := ⟨[(0, .c (.d (.str)))], []⟩, outL := ⟨[(0, .a [.d (.int .i64), .d (.int .i64), .d (.int .i64), .d (.int .i64)]), (1, .c (.d (.bool)))], []⟩, labels := [] }),
  (49, 0, { inL := ⟨[(0, .c (.d (.str)))], []⟩, outL := ⟨[(0, .c (.d (.bool)))], []⟩, labels := [] }),
  (72, 0, { inL := ⟨[(0, .c (.ptr 0 0)), (1, .c (.d (.int .i64)))], [.var true [.d (.str), .d (.bool)]]⟩, outL := ⟨[(0, .c (.d (.int .i64)))], [.var true [.d (.str), .d (.bool)]]⟩, labels := [] }),
  (114, 0, { inL := ⟨[(0, .c (.ptr 0 0)), (1, .c (.d (.int .i64)))], [.var true [.d (.str), .d (.bool)]]⟩, outL := ⟨[(0, .c (.d (.str)))], [.var true [.d (.str), .d (.bool)]]⟩, labels := [] }),
  (124, 0, { inL := ⟨[(0, .c (.d (.str))), (1, .c (.d (.int .i64))), (2, .c (.d (.int .i64)))], []⟩, outL := ⟨[(0, .c (.d (.str))), (1, .c (.d (.bool)))], []⟩, labels := [] }),
  (113, 0, { inL := ⟨[(0, .c (.d (.str)))], []⟩, outL := ⟨[(0, .c (.d (.int .u64)))], []⟩, labels := [(3, ⟨[(0, .c (.d (.str))), (3, .c (.d (.int .u64))), (6, .c (.d (.int .i64))), (7, .c (.d (.int .i64)))], []⟩)] }),
  (39, 0, { inL := ⟨[(0, .c (.d (.arr 5)))], []⟩, outL := ⟨[(0, .c (.d (.str)))], []⟩, labels := [] }),
  (71, 0, { inL := ⟨[(0, .a [.d (.int .i64), .d (.int .i64), .d (.int .i64), .d (.int .i64)])], []⟩, outL := ⟨[(0, .c (.d (.str)))], []⟩, labels := [] }),
  (112, 0, { inL := ⟨[(0, .c (.d (.int .i64))), (1, .c (.d (.int .i64)))], []⟩, outL := ⟨[(0, .c (.d (.str)))], []⟩, labels := [(3, ⟨[(0, .c (.d (.int .i64))), (1, .c (.d (.int .i64))), (5, .c (.vec 0)), (6, .c (.d (.int .i64)))], [.vec 5]⟩)] }),
  (98, 0, { inL := ⟨[(0, .c (.d (.str))), (1, .c (.d (.int .i64)))], []⟩, outL := ⟨[(0, .c (.d (.str)))], []⟩, labels := [] })]
noncomputable def X : List (ExtRow S (annOf Try.prog L)) := [⟨126, 0, fun d => repeatB (d.1) (d.2)⟩]
@[reducible] noncomputable def E : Env := { S := S, tt := tdOf Try.prog, ann := annOf Try.prog L, ext := extAt S (annOf Try.prog L) X, eqs := fun t => get ([(46, [.int .i64, .int .i64, .int .i64, .int .i64])] : List (Nat × List TS)) t }
theorem rows_ok : rowsOk Try.prog L = true := by kernel_rfl
theorem env_ok : EnvOk Try.prog E := envOk_of (by kernel_rfl) rfl rfl rows_ok ((eqs_cons (eqsOk_flat Try.underlying46 (by kernel_rfl)) eqs_nil)) (by kernel_rfl) rfl ofB_len
  (fun s i x h => by
    obtain ⟨b, h1, h2⟩ := Ve.ofB_at (x := x) h
    exact ⟨b, h1, by rw [← h2]; rfl⟩)
  (fun l ns h hl => toB_row (fun i x hx => by
    obtain ⟨n, h1, h2⟩ := h i x hx
    have h2' : ([.int .u8 x] : List (Cell S.K)) = [.int .u8 n] := h2
    injection h2' with h2' _
    injection h2' with _ h2'
    rw [h1, h2']) hl)
theorem ext126_ok : ∀ (d : TL E.S.K (jobT E.ann ⟨126, 0, none⟩)) r, (fun d : ByteArray × Int => (repeatB (d.1) (d.2) : Option (ByteArray))) d = some r → CallOk Try.prog E 126 0 d r := by
  intro (d : ByteArray × Int) (r : ByteArray) h
  refine flat_ok rfl (fun h => by cases h) (xs := [(0, .c (.str (d.1))), (1, .c (.int .i64 (d.2)))]) (res := [(0, .c (.str r))]) rfl rfl (fun Fz w vs hz hs => ?_)
  have h90 := crep_str (hs 0 _ rfl)
  have h91 := crep_int (hs 1 _ rfl)
  rw [arr2 hz h90 h91]
  obtain ⟨h1, h2, hr, h3⟩ := repeatB_some h
  rw [h1]
  exact (Try.strings_Repeat (d.1) _ w h3 h2).mono (by rintro e w' ⟨rfl, hb⟩; exact ⟨_, rfl, hb, by rw [← hr]; exact .str _⟩)
theorem exts_ok : RowsOk Try.prog E X := ⟨ext126_ok, trivial⟩
theorem oks : OrcOk Try.prog E (Sem E) := Sem_ok env_ok (drawn_ok env_ok) (extOk_of rfl exts_ok)
noncomputable def laws_FnSuperText (code : List Int) (more : List Int) : Option (Bool) := Sem E ⟨7, 0, none⟩ (code, more)
noncomputable def laws_b10Long (code : List Int) : Option (Bool) := Sem E ⟨9, 0, none⟩ code
noncomputable def spec_DrawEncodeSuper (code : List Int) : Option (Int × Int × Int × Int) := Sem E ⟨36, 0, none⟩ code
noncomputable def spec_l00From (code : List Int) : Option (List Int × Int × Int) := Sem E ⟨41, 0, none⟩ code
noncomputable def spec_l10Draw_wd (n : Int) (s_code : List Int) (s_at : Int) (s_seed : Int) : Option (Int × Int × Int × Int × List Int × Int × Int) := Sem E ⟨92, 0, none⟩ (n, s_code, s_at, s_seed)
noncomputable def spec_l00Src_among_wdd (list : List Int) (s_code : List Int) (s_at : Int) (s_seed : Int) : Option (Int × List Int × Int × Int) := Sem E ⟨97, 0, none⟩ (list, s_code, s_at, s_seed)
noncomputable def spec_l00Src_pick_wd (n : Int) (s_code : List Int) (s_at : Int) (s_seed : Int) : Option (Int × List Int × Int × Int) := Sem E ⟨93, 0, none⟩ (n, s_code, s_at, s_seed)
noncomputable def spec_l00Src_next_wd (s_code : List Int) (s_at : Int) (s_seed : Int) : Option (Int × List Int × Int × Int) := Sem E ⟨94, 0, none⟩ (s_code, s_at, s_seed)
noncomputable def spec_l00Src_one_wd (n : Int) (s_code : List Int) (s_at : Int) (s_seed : Int) : Option (Bool × List Int × Int × Int) := Sem E ⟨43, 0, none⟩ (n, s_code, s_at, s_seed)
noncomputable def spec_ValidSuper (s_Blocks : Int) (s_Log : Int) (s_Seq : Int) (s_Turn : Int) : Option (Bool) := Sem E ⟨37, 0, none⟩ (s_Blocks, s_Log, s_Seq, s_Turn)
noncomputable def spec_l00In (n : Int) (low : Int) (high : Int) : Option (Bool) := Sem E ⟨59, 0, none⟩ (n, low, high)
noncomputable def impl_EncodeSuper (s_Blocks : Int) (s_Log : Int) (s_Seq : Int) (s_Turn : Int) : Option (ByteArray) := Sem E ⟨38, 0, none⟩ (s_Blocks, s_Log, s_Seq, s_Turn)
noncomputable def impl_ValidSuper (s_Blocks : Int) (s_Log : Int) (s_Seq : Int) (s_Turn : Int) : Option (Bool) := Sem E ⟨73, 0, none⟩ (s_Blocks, s_Log, s_Seq, s_Turn)
noncomputable def impl_within (n : Int) (low : Int) (high : Int) : Option (Bool) := Sem E ⟨63, 0, none⟩ (n, low, high)
noncomputable def impl_Super_encode (s_Blocks : Int) (s_Log : Int) (s_Seq : Int) (s_Turn : Int) : Option (ByteArray) := Sem E ⟨74, 0, none⟩ (s_Blocks, s_Log, s_Seq, s_Turn)
noncomputable def impl_putBytes (n : Int) (size : Int) : Option (ByteArray) := Sem E ⟨115, 0, none⟩ (n, size)
noncomputable def impl_putBytes_l3 (n : Int) (t10 : Int) (t11 : Int) (out : List Int) : Option (ByteArray) := Sem E ⟨115, 0, some 3⟩ (n, t10, t11, out)
noncomputable def impl_padded (s : ByteArray) (n : Int) : Option (ByteArray) := Sem E ⟨116, 0, none⟩ (s, n)
noncomputable def impl_zeros (n : Int) : Option (ByteArray) := Sem E ⟨125, 0, none⟩ n
noncomputable def strings_Repeat (x0 : ByteArray) (x1 : Int) : Option (ByteArray) := Sem E ⟨126, 0, none⟩ (x0, x1)
noncomputable def impl_DecodeSuper (block : ByteArray) : Option (Int × Int × Int × Int × Bool) := Sem E ⟨23, 0, none⟩ block
noncomputable def impl_isBlock (s : ByteArray) : Option (Bool) := Sem E ⟨49, 0, none⟩ s
noncomputable def impl_decoder_number_w (size : Int) (d_rest : ByteArray) (d_bad : Bool) : Option (Int × ByteArray × Bool) := Sem E ⟨72, 0, none⟩ (size, d_rest, d_bad)
noncomputable def impl_decoder_take_w (n : Int) (d_rest : ByteArray) (d_bad : Bool) : Option (ByteArray × ByteArray × Bool) := Sem E ⟨114, 0, none⟩ (n, d_rest, d_bad)
noncomputable def impl_cut (s : ByteArray) (at_ : Int) (size : Int) : Option (ByteArray × Bool) := Sem E ⟨124, 0, none⟩ (s, at_, size)
noncomputable def impl_getBits (s : ByteArray) : Option (Int) := Sem E ⟨113, 0, none⟩ s
noncomputable def impl_getBits_l3 (s : ByteArray) (n : Int) (t6 : Int) (t7 : Int) : Option (Int) := Sem E ⟨113, 0, some 3⟩ (s, n, t6, t7)
noncomputable def spec_DrawDecodeSuper (code : List Int) : Option (ByteArray) := Sem E ⟨39, 0, none⟩ code
noncomputable def spec_l10Encode (s_Blocks : Int) (s_Log : Int) (s_Seq : Int) (s_Turn : Int) : Option (ByteArray) := Sem E ⟨71, 0, none⟩ (s_Blocks, s_Log, s_Seq, s_Turn)
noncomputable def spec_l01Bytes (n : Int) (size : Int) : Option (ByteArray) := Sem E ⟨112, 0, none⟩ (n, size)
noncomputable def spec_l01Bytes_l3 (n : Int) (size : Int) (k : Int) (out : List Int) : Option (ByteArray) := Sem E ⟨112, 0, some 3⟩ (n, size, k, out)
noncomputable def spec_l01Pad (s : ByteArray) (n : Int) : Option (ByteArray) := Sem E ⟨98, 0, none⟩ (s, n)
end Go.Ve.X
