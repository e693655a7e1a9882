/- The environment of 'FnExactPipelineText' for the evaluator: kinds of elements, layouts of the functions that it reaches (printed by plan.py). No condition. -/
import Derived.Test.YtgklhpocmnjpfaaDoorVeC
import Derived.Test.YtgklhpocmnjpfaaDoorLayFnExactPipelineText
import Derived.Test.YtgklhpocmnjpfaaDoorProg
namespace Go.Ve.X
open Go.Proofs Go.Ve Go.RowKit
set_option linter.unusedVariables false
set_option maxRecDepth 100000
inductive El | e5 | e9 | e75 | e77 | z
def El.K : El → Type | .e5 => Int | .e9 => ByteArray | .e75 => Int × Int × Bool | .e77 => Int × Int × Bool | .z => Unit
def El.sh : El → List TS | .e5 => [.int .u8] | .e9 => [.str] | .e75 => [.int .i64, .int .i64, .bool] | .e77 => [.int .i64, .int .i64, .bool] | .z => []
def code (n : Nat) : El := match n with | 5 => .e5 | 9 => .e9 | 75 => .e75 | 77 => .e77 | _ => .z
def KK (n : Nat) : Type := (code n).K
def El.toT : (c : El) → c.K → TL KK c.sh | .e5 => fun x => x | .e9 => fun x => x | .e75 => fun x => x | .e77 => fun x => x | .z => fun _ => ()
def El.ofT : (c : El) → TL KK c.sh → c.K | .e5 => fun x => x | .e9 => fun x => x | .e75 => fun x => x | .e77 => fun x => x | .z => fun _ => ()
theorem El.law (c : El) (t : TL KK c.sh) : c.toT (c.ofT t) = t := by cases c <;> rfl
noncomputable def S : Sig where
  K := KK
  sh := fun n => (code n).sh
  toT := fun n => (code n).toT
  ofT := fun n => (code n).ofT
  law := fun n => (code n).law
  u8 := 5
  bt := none
  ofB := fun s => Ve.ofB s
  toB := fun l => Ve.toB l
  fixd := tabFix ((Tryd.prog.globalNamed "internal/strconv.uint64pow10").getD 0)
def L : List (Nat × Nat × Ann) := [
  (4, 0, { inL := ⟨[(0, .c (.d (.arr 77)))], []⟩, outL := ⟨[(0, .c (.d (.bool)))], []⟩, labels := [] }),
  (12, 0, { inL := ⟨[(0, .c (.d (.arr 77))), (1, .c (.d (.int .i64)))], []⟩, outL := ⟨[(0, .c (.d (.int .i64)))], []⟩, labels := [] }),
  (14, 0, { inL := ⟨[(0, .c (.d (.arr 77)))], []⟩, outL := ⟨[(0, .c (.vec 0))], [.vec 75]⟩, labels := [(3, ⟨[(0, .c (.d (.arr 77))), (3, .c (.vec 0)), (4, .c (.d (.int .i64)))], [.vec 75]⟩)] }),
  (48, 0, { inL := ⟨[(0, .a [.d (.int .i64), .d (.int .i64), .d (.bool)])], []⟩, outL := ⟨[(0, .a [.d (.int .i64), .d (.int .i64), .d (.bool)])], []⟩, labels := [] }),
  (13, 0, { inL := ⟨[(0, .c (.d (.arr 75)))], []⟩, outL := ⟨[(0, .c (.d (.str)))], []⟩, labels := [(7, ⟨[(0, .c (.d (.arr 75))), (3, .c (.d (.str))), (4, .c (.d (.int .i64)))], []⟩)] }),
  (45, 0, { inL := ⟨[(0, .c (.d (.arr 75)))], []⟩, outL := ⟨[(0, .c (.d (.bool)))], []⟩, labels := [(2, ⟨[(0, .c (.d (.arr 75))), (3, .c (.d (.int .i64)))], []⟩)] }),
  (85, 0, { inL := ⟨[(0, .a [.d (.int .i64), .d (.int .i64), .d (.bool)])], []⟩, outL := ⟨[(0, .c (.d (.bool)))], []⟩, labels := [] }),
  (39, 0, { inL := ⟨[(0, .c (.d (.int .i64))), (1, .c (.d (.int .i64))), (2, .c (.d (.int .i64)))], []⟩, outL := ⟨[(0, .c (.d (.bool)))], []⟩, labels := [] }),
  (46, 0, { inL := ⟨[], []⟩, outL := ⟨[(0, .c (.vec 0))], [.vec 9]⟩, labels := [] }),
  (47, 0, { inL := ⟨[(0, .c (.d (.int .i64)))], []⟩, outL := ⟨[(0, .c (.d (.str)))], []⟩, labels := [] }),
  (15, 0, { inL := ⟨[(0, .c (.d (.arr 75)))], []⟩, outL := ⟨[(0, .c (.d (.str)))], []⟩, labels := [] }),
  (49, 0, { inL := ⟨[(0, .c (.d (.arr 75)))], []⟩, outL := ⟨[(0, .c (.d (.bool)))], []⟩, labels := [] }),
  (86, 0, { inL := ⟨[(0, .c (.d (.arr 75))), (1, .c (.fn 87 []))], []⟩, outL := ⟨[(0, .c (.d (.bool)))], []⟩, labels := [] }),
  (115, 0, { inL := ⟨[(0, .c (.d (.arr 75))), (1, .c (.fn 87 []))], []⟩, outL := ⟨[(0, .c (.d (.int .i64)))], []⟩, labels := [(2, ⟨[(0, .c (.d (.arr 75))), (1, .c (.fn 87 [])), (7, .c (.d (.int .i64))), (8, .c (.d (.int .i64)))], []⟩)] }),
  (87, 0, { inL := ⟨[(0, .a [.d (.int .i64), .d (.int .i64), .d (.bool)])], []⟩, outL := ⟨[(0, .c (.d (.bool)))], []⟩, labels := [] }),
  (88, 0, { inL := ⟨[(0, .a [.d (.int .i64), .d (.int .i64), .d (.bool)])], []⟩, outL := ⟨[(0, .c (.d (.bool)))], []⟩, labels := [] }),
  (42, 0, { inL := ⟨[(0, .c (.d (.int .i64))), (1, .c (.d (.int .i64))), (2, .c (.d (.int .i64)))], []⟩, outL := ⟨[(0, .c (.d (.bool)))], []⟩, labels := [] }),
  (116, 0, { inL := ⟨[(0, .c (.d (.int .i64)))], []⟩, outL := ⟨[(0, .c (.d (.bool)))], []⟩, labels := [] }),
  (50, 0, { inL := ⟨[(0, .c (.d (.arr 75)))], []⟩, outL := ⟨[(0, .c (.d (.str)))], []⟩, labels := [(5, ⟨[(3, .c (.vec 0)), (9, .c (.d (.arr 75))), (10, .c (.d (.int .i64))), (11, .c (.d (.int .i64)))], [.vec 9]⟩)] }),
  (89, 0, { inL := ⟨[(0, .a [.d (.int .i64), .d (.int .i64), .d (.bool)])], []⟩, outL := ⟨[(0, .c (.d (.str)))], []⟩, labels := [] }),
  (44, 0, { inL := ⟨[(0, .c (.d (.int .i64)))], []⟩, outL := ⟨[(0, .c (.d (.str)))], []⟩, labels := [] }),
  (84, 0, { inL := ⟨[(0, .c (.d (.int .i64))), (1, .c (.d (.int .i64)))], []⟩, outL := ⟨[(0, .c (.d (.str)))], []⟩, labels := [] }),
  (90, 0, { inL := ⟨[(0, .c (.d (.arr 9))), (1, .c (.d (.str)))], []⟩, outL := ⟨[(0, .c (.d (.str)))], []⟩, labels := [] }),
  (16, 0, { inL := ⟨[(0, .c (.d (.arr 75))), (1, .c (.d (.arr 75)))], []⟩, outL := ⟨[(0, .c (.d (.bool)))], []⟩, labels := [(4, ⟨[(0, .c (.d (.arr 75))), (1, .c (.d (.arr 75))), (5, .c (.d (.int .i64)))], []⟩)] }),
  (51, 0, { inL := ⟨[(0, .a [.d (.int .i64), .d (.int .i64), .d (.bool)]), (1, .a [.d (.int .i64), .d (.int .i64), .d (.bool)])], []⟩, outL := ⟨[(0, .c (.d (.bool)))], []⟩, labels := [] })]
noncomputable def X : List (ExtRow S (annOf Tryd.prog L)) := [⟨84, 0, fun d => fmtInt (d.1) (d.2)⟩, ⟨90, 0, fun d => joinI (d.1) (d.2)⟩]
@[reducible] noncomputable def E : Env := { S := S, tt := tdOf Tryd.prog, ann := annOf Tryd.prog L, ext := extAt S (annOf Tryd.prog L) X, eqs := fun t => get ([] : List (Nat × List TS)) t }
theorem rows_ok : rowsOk Tryd.prog L = true := by kernel_rfl
theorem env_ok : EnvOk Tryd.prog E := envOk_of (by kernel_rfl) rfl rfl rows_ok (eqs_nil) (by kernel_rfl) rfl ofB_len
  (fun s i x h => by
    obtain ⟨b, h1, h2⟩ := Ve.ofB_at (x := x) h
    exact ⟨b, h1, by rw [← h2]; rfl⟩)
  (fun l ns h hl => toB_row (fun i x hx => by
    obtain ⟨n, h1, h2⟩ := h i x hx
    have h2' : ([.int .u8 x] : List (Cell S.K)) = [.int .u8 n] := h2
    injection h2' with h2' _
    injection h2' with _ h2'
    rw [h1, h2']) hl)
theorem ext84_ok : ∀ (d : TL E.S.K (jobT E.ann ⟨84, 0, none⟩)) r, (fun d : Int × Int => (fmtInt (d.1) (d.2) : Option (ByteArray))) d = some r → CallOk Tryd.prog E 84 0 d r := by
  intro (d : Int × Int) (r : ByteArray) h
  refine flat_ok3 rfl (fun h => by cases h) (xs := [(0, .c (.int .i64 (d.1))), (1, .c (.int .i64 (d.2)))]) (res := [(0, .c (.str r))]) rfl rfl (fun Fz w vs hz hlt hfx hs => ?_)
  have h90 := crep_int (hs 0 _ rfl)
  have h91 := crep_int (hs 1 _ rfl)
  rw [arr2 hz h90 h91]
  obtain ⟨hb, h1, h2, hr⟩ := fmtInt_some h
  rw [hb]
  exact (Tryd.strconv_FormatInt_10 (d.1) h1 h2 w (tab_of_fixed _ rfl (by kernel_rfl) hfx)).mono (by rintro e w' ⟨rfl, k, os, rfl⟩; exact ⟨_, rfl, Lib.below_grow _ _ (Nat.le_refl _) _ _, by rw [← hr]; exact .str _⟩)
theorem ext90_ok : ∀ (d : TL E.S.K (jobT E.ann ⟨90, 0, none⟩)) r, (fun d : List ByteArray × ByteArray => (joinI (d.1) (d.2) : Option (ByteArray))) d = some r → CallOk Tryd.prog E 90 0 d r := by
  intro (d : List ByteArray × ByteArray) (r : ByteArray) h
  refine flat_ok3 rfl (fun h => by cases h) (xs := [(0, .c (.arr 9 (d.1))), (1, .c (.str (d.2)))]) (res := [(0, .c (.str r))]) rfl rfl (fun Fz w vs hz hlt hfx hs => ?_)
  obtain ⟨h1, h2, hr⟩ := joinI_some h
  have key : ∀ l : List ByteArray, l = (d.1) → ∃ a cap, vs.getD 0 undef = .slice a l.length cap ∧ l.length ≤ cap ∧ (l ≠ [] → ∃ bk o, a = some ⟨bk, o, none⟩ ∧ bk < w.heap.size ∧ ∀ (j : Nat) x, l[j]? = some x → w.cell? ⟨bk, o + j, none⟩ = some (.string x)) := by
    intro l hl
    have q := crep_strs (S := E.S) (e := 9) (fun x : ByteArray => x) (fun _ => rfl) rfl (hs 0 _ rfl)
    have hm : l = List.map (fun x : ByteArray => x) (d.1) := by rw [hl]; exact (List.map_id' _).symm
    rw [hm]
    exact q
  obtain ⟨a, cap, e0, e1, e2⟩ := key (d.1) rfl
  rw [arr2 hz e0 (crep_str (hs 1 _ rfl))]
  by_cases hl : (d.1) = []
  · rw [hl] at hr ⊢
    exact (Tryd.strings_Join_none a cap (d.2) w).mono (by rintro e w' ⟨rfl, rfl⟩; exact ⟨_, rfl, Below.refl _ _, by rw [← hr]; exact .str _⟩)
  · obtain ⟨bk, o, rfl, hb, hc⟩ := e2 hl
    exact (Tryd.strings_Join bk o cap (d.1) (d.2) w hc hb h1 e1 h2).mono (by rintro e w' ⟨rfl, hbw⟩; exact ⟨_, rfl, hbw, by rw [← hr]; exact .str _⟩)
theorem exts_ok : RowsOk Tryd.prog E X := ⟨ext84_ok, ext90_ok, trivial⟩
theorem oks : OrcOk Tryd.prog E (Sem E) := Sem_ok env_ok (drawn_ok env_ok) (extOk_of rfl exts_ok)
noncomputable def laws_FnExactPipelineText (aList : List (Int × Int × Bool)) : Option (Bool) := Sem E ⟨4, 0, none⟩ aList
noncomputable def laws_szFilterS (a : List (Int × Int × Bool)) (left : Int) : Option (Int) := Sem E ⟨12, 0, none⟩ (a, left)
noncomputable def laws_toFilterS (a : List (Int × Int × Bool)) : Option (List (Int × Int × Bool)) := Sem E ⟨14, 0, none⟩ a
noncomputable def laws_toFilterS_l3 (a : List (Int × Int × Bool)) (i : Int) (out : List (Int × Int × Bool)) : Option (List (Int × Int × Bool)) := Sem E ⟨14, 0, some 3⟩ (a, i, out)
noncomputable def laws_toFilter (a_Kind : Int) (a_Param : Int) (a_Optional : Bool) : Option (Int × Int × Bool) := Sem E ⟨48, 0, none⟩ (a_Kind, a_Param, a_Optional)
noncomputable def spec_PipelineText (list : List (Int × Int × Bool)) : Option (ByteArray) := Sem E ⟨13, 0, none⟩ list
noncomputable def spec_PipelineText_l7 (list : List (Int × Int × Bool)) (out : ByteArray) (i : Int) : Option (ByteArray) := Sem E ⟨13, 0, some 7⟩ (list, out, i)
noncomputable def spec_l19Ok (list : List (Int × Int × Bool)) : Option (Bool) := Sem E ⟨45, 0, none⟩ list
noncomputable def spec_l19Ok_l2 (list : List (Int × Int × Bool)) (i : Int) : Option (Bool) := Sem E ⟨45, 0, some 2⟩ (list, i)
noncomputable def spec_l18Ok (f_Kind : Int) (f_Param : Int) (f_Optional : Bool) : Option (Bool) := Sem E ⟨85, 0, none⟩ (f_Kind, f_Param, f_Optional)
noncomputable def spec_l00In (n : Int) (low : Int) (high : Int) : Option (Bool) := Sem E ⟨39, 0, none⟩ (n, low, high)
noncomputable def spec_l19Words (_u : Unit) : Option (List ByteArray) := Sem E ⟨46, 0, none⟩ ()
noncomputable def spec_l05Digits (n : Int) : Option (ByteArray) := Sem E ⟨47, 0, none⟩ n
noncomputable def impl_PipelineText (list : List (Int × Int × Bool)) : Option (ByteArray) := Sem E ⟨15, 0, none⟩ list
noncomputable def impl_ValidPipeline (list : List (Int × Int × Bool)) : Option (Bool) := Sem E ⟨49, 0, none⟩ list
noncomputable def slices_ContainsFunc_simpl_Filter_impl_Filter_d_ValidPipeline_1 (s : List (Int × Int × Bool)) : Option (Bool) := Sem E ⟨86, 0, none⟩ s
noncomputable def slices_IndexFunc_simpl_Filter_impl_Filter_d_ValidPipeline_1 (s : List (Int × Int × Bool)) : Option (Int) := Sem E ⟨115, 0, none⟩ s
noncomputable def slices_IndexFunc_simpl_Filter_impl_Filter_d_ValidPipeline_1_l2 (s : List (Int × Int × Bool)) (t7 : Int) (t8 : Int) : Option (Int) := Sem E ⟨115, 0, some 2⟩ (s, t7, t8)
noncomputable def impl_ValidPipeline_1 (f_Kind : Int) (f_Param : Int) (f_Optional : Bool) : Option (Bool) := Sem E ⟨87, 0, none⟩ (f_Kind, f_Param, f_Optional)
noncomputable def impl_ValidFilter (f_Kind : Int) (f_Param : Int) (f_Optional : Bool) : Option (Bool) := Sem E ⟨88, 0, none⟩ (f_Kind, f_Param, f_Optional)
noncomputable def impl_within (n : Int) (low : Int) (high : Int) : Option (Bool) := Sem E ⟨42, 0, none⟩ (n, low, high)
noncomputable def impl_isWidth (width : Int) : Option (Bool) := Sem E ⟨116, 0, none⟩ width
noncomputable def impl_pipelineText (list : List (Int × Int × Bool)) : Option (ByteArray) := Sem E ⟨50, 0, none⟩ list
noncomputable def impl_pipelineText_l5 (t9 : List (Int × Int × Bool)) (t10 : Int) (t11 : Int) (words : List ByteArray) : Option (ByteArray) := Sem E ⟨50, 0, some 5⟩ (t9, t10, t11, words)
noncomputable def impl_Filter_text (f_Kind : Int) (f_Param : Int) (f_Optional : Bool) : Option (ByteArray) := Sem E ⟨89, 0, none⟩ (f_Kind, f_Param, f_Optional)
noncomputable def impl_decimal (n : Int) : Option (ByteArray) := Sem E ⟨44, 0, none⟩ n
noncomputable def strconv_FormatInt (x0 : Int) (x1 : Int) : Option (ByteArray) := Sem E ⟨84, 0, none⟩ (x0, x1)
noncomputable def strings_Join (x0 : List ByteArray) (x1 : ByteArray) : Option (ByteArray) := Sem E ⟨90, 0, none⟩ (x0, x1)
noncomputable def laws_eqFilterS (a : List (Int × Int × Bool)) (b : List (Int × Int × Bool)) : Option (Bool) := Sem E ⟨16, 0, none⟩ (a, b)
noncomputable def laws_eqFilterS_l4 (a : List (Int × Int × Bool)) (b : List (Int × Int × Bool)) (i : Int) : Option (Bool) := Sem E ⟨16, 0, some 4⟩ (a, b, i)
noncomputable def laws_eqFilter (a_Kind : Int) (a_Param : Int) (a_Optional : Bool) (b_Kind : Int) (b_Param : Int) (b_Optional : Bool) : Option (Bool) := Sem E ⟨51, 0, none⟩ (a_Kind, a_Param, a_Optional, b_Kind, b_Param, b_Optional)
end Go.Ve.X
