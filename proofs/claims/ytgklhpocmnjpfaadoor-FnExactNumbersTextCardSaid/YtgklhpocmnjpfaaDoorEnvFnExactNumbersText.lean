/- The environment of 'FnExactNumbersText' for the evaluator: kinds of elements, layouts of the functions that it reaches (printed by plan.py). No condition. -/
import Derived.Test.YtgklhpocmnjpfaaDoorVeC
import Derived.Test.YtgklhpocmnjpfaaDoorLayFnExactNumbersText
import Derived.Test.YtgklhpocmnjpfaaDoorProg
namespace Go.Ve.X
open Go.Proofs Go.Ve Go.RowKit
set_option linter.unusedVariables false
set_option maxRecDepth 100000
inductive El | e2 | e5 | e9 | z
def El.K : El → Type | .e2 => Int | .e5 => Int | .e9 => ByteArray | .z => Unit
def El.sh : El → List TS | .e2 => [.int .i64] | .e5 => [.int .u8] | .e9 => [.str] | .z => []
def code (n : Nat) : El := match n with | 2 => .e2 | 5 => .e5 | 9 => .e9 | _ => .z
def KK (n : Nat) : Type := (code n).K
def El.toT : (c : El) → c.K → TL KK c.sh | .e2 => fun x => x | .e5 => fun x => x | .e9 => fun x => x | .z => fun _ => ()
def El.ofT : (c : El) → TL KK c.sh → c.K | .e2 => fun x => x | .e5 => fun x => x | .e9 => fun x => x | .z => fun _ => ()
theorem El.law (c : El) (t : TL KK c.sh) : c.toT (c.ofT t) = t := by cases c <;> rfl
noncomputable def S : Sig where
  K := KK
  sh := fun n => (code n).sh
  toT := fun n => (code n).toT
  ofT := fun n => (code n).ofT
  law := fun n => (code n).law
  u8 := 5
  bt := none
  ofB := fun s => Ve.ofB s
  toB := fun l => Ve.toB l
  fixd := tabFix ((Tryd.prog.globalNamed "internal/strconv.uint64pow10").getD 0)
def L : List (Nat × Nat × Ann) := [
  (6, 0, { inL := ⟨[(0, .a [.d (.arr 2), .d (.arr 2)])], []⟩, outL := ⟨[(0, .c (.d (.bool)))], []⟩, labels := [] }),
  (22, 0, { inL := ⟨[(0, .a [.d (.arr 2), .d (.arr 2)]), (1, .c (.d (.int .i64)))], []⟩, outL := ⟨[(0, .c (.d (.int .i64)))], []⟩, labels := [] }),
  (52, 0, { inL := ⟨[(0, .c (.d (.arr 2))), (1, .c (.d (.int .i64)))], []⟩, outL := ⟨[(0, .c (.d (.int .i64)))], []⟩, labels := [] }),
  (24, 0, { inL := ⟨[(0, .a [.d (.arr 2), .d (.arr 2)])], []⟩, outL := ⟨[(0, .a [.vec 0, .vec 1])], [.vec 2, .vec 2]⟩, labels := [] }),
  (54, 0, { inL := ⟨[(0, .c (.d (.arr 2)))], []⟩, outL := ⟨[(0, .c (.vec 0))], [.vec 2]⟩, labels := [(3, ⟨[(0, .c (.d (.arr 2))), (3, .c (.vec 0)), (4, .c (.d (.int .i64)))], [.vec 2]⟩)] }),
  (23, 0, { inL := ⟨[(0, .a [.d (.arr 2), .d (.arr 2)])], []⟩, outL := ⟨[(0, .c (.d (.str)))], []⟩, labels := [] }),
  (58, 0, { inL := ⟨[(0, .c (.ptr 0 0))], [.var false [.d (.arr 2), .d (.arr 2)]]⟩, outL := ⟨[(0, .c (.d (.bool)))], [.gone]⟩, labels := [(4, ⟨[(0, .c (.ptr 0 0)), (3, .c (.d (.int .i64)))], [.var false [.d (.arr 2), .d (.arr 2)]]⟩)] }),
  (91, 0, { inL := ⟨[(0, .c (.d (.arr 2)))], []⟩, outL := ⟨[(0, .c (.d (.bool)))], []⟩, labels := [(5, ⟨[(0, .c (.d (.arr 2))), (3, .c (.d (.int .i64))), (4, .c (.d (.int .i64)))], []⟩)] }),
  (39, 0, { inL := ⟨[(0, .c (.d (.int .i64))), (1, .c (.d (.int .i64))), (2, .c (.d (.int .i64)))], []⟩, outL := ⟨[(0, .c (.d (.bool)))], []⟩, labels := [] }),
  (93, 0, { inL := ⟨[(0, .c (.d (.arr 2)))], []⟩, outL := ⟨[(0, .c (.d (.int .i64)))], []⟩, labels := [(3, ⟨[(0, .c (.d (.arr 2))), (3, .c (.d (.int .i64))), (4, .c (.d (.int .i64)))], []⟩)] }),
  (94, 0, { inL := ⟨[(0, .c (.d (.int .i64)))], []⟩, outL := ⟨[(0, .c (.d (.bool)))], []⟩, labels := [] }),
  (59, 0, { inL := ⟨[(0, .c (.ptr 0 0))], [.var false [.d (.arr 2), .d (.arr 2)]]⟩, outL := ⟨[(0, .c (.d (.str)))], [.gone]⟩, labels := [(3, ⟨[(0, .c (.ptr 0 0)), (3, .c (.d (.str))), (4, .c (.d (.int .i64)))], [.var false [.d (.arr 2), .d (.arr 2)]]⟩)] }),
  (95, 0, { inL := ⟨[(0, .c (.d (.arr 2)))], []⟩, outL := ⟨[(0, .c (.d (.str)))], []⟩, labels := [(3, ⟨[(0, .c (.d (.arr 2))), (3, .c (.d (.str))), (4, .c (.d (.int .i64)))], []⟩)] }),
  (47, 0, { inL := ⟨[(0, .c (.d (.int .i64)))], []⟩, outL := ⟨[(0, .c (.d (.str)))], []⟩, labels := [] }),
  (25, 0, { inL := ⟨[(0, .a [.d (.arr 2), .d (.arr 2)])], []⟩, outL := ⟨[(0, .c (.d (.str)))], []⟩, labels := [] }),
  (60, 0, { inL := ⟨[(0, .a [.d (.arr 2), .d (.arr 2)])], []⟩, outL := ⟨[(0, .c (.d (.bool)))], []⟩, labels := [] }),
  (92, 0, { inL := ⟨[(0, .c (.d (.arr 2)))], []⟩, outL := ⟨[(0, .c (.d (.bool)))], []⟩, labels := [] }),
  (97, 0, { inL := ⟨[(0, .c (.d (.arr 2))), (1, .c (.d (.int .i64))), (2, .c (.d (.int .i64)))], []⟩, outL := ⟨[(0, .c (.d (.bool)))], []⟩, labels := [] }),
  (120, 0, { inL := ⟨[(0, .c (.d (.arr 2))), (1, .c (.fn 121 [(0, 0), (1, 0)]))], [.var false [.d (.int .i64)], .var false [.d (.int .i64)]]⟩, outL := ⟨[(0, .c (.d (.bool)))], [.gone, .gone]⟩, labels := [] }),
  (138, 0, { inL := ⟨[(0, .c (.d (.arr 2))), (1, .c (.fn 121 [(0, 0), (1, 0)]))], [.var false [.d (.int .i64)], .var false [.d (.int .i64)]]⟩, outL := ⟨[(0, .c (.d (.int .i64)))], [.gone, .gone]⟩, labels := [(2, ⟨[(0, .c (.d (.arr 2))), (1, .c (.fn 121 [(0, 0), (1, 0)])), (7, .c (.d (.int .i64))), (8, .c (.d (.int .i64)))], [.var false [.d (.int .i64)], .var false [.d (.int .i64)]]⟩)] }),
  (121, 0, { inL := ⟨[(0, .c (.d (.int .i64))), (1, .c (.ptr 0 0)), (2, .c (.ptr 1 0))], [.var false [.d (.int .i64)], .var false [.d (.int .i64)]]⟩, outL := ⟨[(0, .c (.d (.bool)))], [.gone, .gone]⟩, labels := [] }),
  (42, 0, { inL := ⟨[(0, .c (.d (.int .i64))), (1, .c (.d (.int .i64))), (2, .c (.d (.int .i64)))], []⟩, outL := ⟨[(0, .c (.d (.bool)))], []⟩, labels := [] }),
  (96, 0, { inL := ⟨[(0, .c (.d (.arr 2)))], []⟩, outL := ⟨[(0, .c (.d (.int .i64)))], []⟩, labels := [(3, ⟨[(3, .c (.d (.int .i64))), (6, .c (.d (.arr 2))), (7, .c (.d (.int .i64))), (8, .c (.d (.int .i64)))], []⟩)] }),
  (61, 0, { inL := ⟨[(0, .a [.d (.arr 2), .d (.arr 2)])], []⟩, outL := ⟨[(0, .c (.d (.str)))], []⟩, labels := [(3, ⟨[(3, .c (.vec 0)), (13, .c (.d (.arr 2))), (14, .c (.d (.int .i64))), (15, .c (.d (.int .i64)))], [.vec 9]⟩)] }),
  (98, 0, { inL := ⟨[(0, .c (.d (.arr 2)))], []⟩, outL := ⟨[(0, .c (.d (.str)))], []⟩, labels := [(3, ⟨[(3, .c (.vec 0)), (6, .c (.d (.arr 2))), (7, .c (.d (.int .i64))), (8, .c (.d (.int .i64)))], [.vec 9]⟩)] }),
  (44, 0, { inL := ⟨[(0, .c (.d (.int .i64)))], []⟩, outL := ⟨[(0, .c (.d (.str)))], []⟩, labels := [] }),
  (84, 0, { inL := ⟨[(0, .c (.d (.int .i64))), (1, .c (.d (.int .i64)))], []⟩, outL := ⟨[(0, .c (.d (.str)))], []⟩, labels := [] }),
  (90, 0, { inL := ⟨[(0, .c (.d (.arr 9))), (1, .c (.d (.str)))], []⟩, outL := ⟨[(0, .c (.d (.str)))], []⟩, labels := [] }),
  (26, 0, { inL := ⟨[(0, .a [.d (.arr 2), .d (.arr 2)]), (1, .a [.d (.arr 2), .d (.arr 2)])], []⟩, outL := ⟨[(0, .c (.d (.bool)))], []⟩, labels := [] }),
  (57, 0, { inL := ⟨[(0, .c (.d (.arr 2))), (1, .c (.d (.arr 2)))], []⟩, outL := ⟨[(0, .c (.d (.bool)))], []⟩, labels := [(4, ⟨[(0, .c (.d (.arr 2))), (1, .c (.d (.arr 2))), (5, .c (.d (.int .i64)))], []⟩)] })]
noncomputable def X : List (ExtRow S (annOf Tryd.prog L)) := [⟨84, 0, fun d => fmtInt (d.1) (d.2)⟩, ⟨90, 0, fun d => joinI (d.1) (d.2)⟩]
@[reducible] noncomputable def E : Env := { S := S, tt := tdOf Tryd.prog, ann := annOf Tryd.prog L, ext := extAt S (annOf Tryd.prog L) X, eqs := fun t => get ([] : List (Nat × List TS)) t }
theorem rows_ok : rowsOk Tryd.prog L = true := by kernel_rfl
theorem env_ok : EnvOk Tryd.prog E := envOk_of (by kernel_rfl) rfl rfl rows_ok (eqs_nil) (by kernel_rfl) rfl ofB_len
  (fun s i x h => by
    obtain ⟨b, h1, h2⟩ := Ve.ofB_at (x := x) h
    exact ⟨b, h1, by rw [← h2]; rfl⟩)
  (fun l ns h hl => toB_row (fun i x hx => by
    obtain ⟨n, h1, h2⟩ := h i x hx
    have h2' : ([.int .u8 x] : List (Cell S.K)) = [.int .u8 n] := h2
    injection h2' with h2' _
    injection h2' with _ h2'
    rw [h1, h2']) hl)
theorem ext84_ok : ∀ (d : TL E.S.K (jobT E.ann ⟨84, 0, none⟩)) r, (fun d : Int × Int => (fmtInt (d.1) (d.2) : Option (ByteArray))) d = some r → CallOk Tryd.prog E 84 0 d r := by
  intro (d : Int × Int) (r : ByteArray) h
  refine flat_ok3 rfl (fun h => by cases h) (xs := [(0, .c (.int .i64 (d.1))), (1, .c (.int .i64 (d.2)))]) (res := [(0, .c (.str r))]) rfl rfl (fun Fz w vs hz hlt hfx hs => ?_)
  have h90 := crep_int (hs 0 _ rfl)
  have h91 := crep_int (hs 1 _ rfl)
  rw [arr2 hz h90 h91]
  obtain ⟨hb, h1, h2, hr⟩ := fmtInt_some h
  rw [hb]
  exact (Tryd.strconv_FormatInt_10 (d.1) h1 h2 w (tab_of_fixed _ rfl (by kernel_rfl) hfx)).mono (by rintro e w' ⟨rfl, k, os, rfl⟩; exact ⟨_, rfl, Lib.below_grow _ _ (Nat.le_refl _) _ _, by rw [← hr]; exact .str _⟩)
theorem ext90_ok : ∀ (d : TL E.S.K (jobT E.ann ⟨90, 0, none⟩)) r, (fun d : List ByteArray × ByteArray => (joinI (d.1) (d.2) : Option (ByteArray))) d = some r → CallOk Tryd.prog E 90 0 d r := by
  intro (d : List ByteArray × ByteArray) (r : ByteArray) h
  refine flat_ok3 rfl (fun h => by cases h) (xs := [(0, .c (.arr 9 (d.1))), (1, .c (.str (d.2)))]) (res := [(0, .c (.str r))]) rfl rfl (fun Fz w vs hz hlt hfx hs => ?_)
  obtain ⟨h1, h2, hr⟩ := joinI_some h
  have key : ∀ l : List ByteArray, l = (d.1) → ∃ a cap, vs.getD 0 undef = .slice a l.length cap ∧ l.length ≤ cap ∧ (l ≠ [] → ∃ bk o, a = some ⟨bk, o, none⟩ ∧ bk < w.heap.size ∧ ∀ (j : Nat) x, l[j]? = some x → w.cell? ⟨bk, o + j, none⟩ = some (.string x)) := by
    intro l hl
    have q := crep_strs (S := E.S) (e := 9) (fun x : ByteArray => x) (fun _ => rfl) rfl (hs 0 _ rfl)
    have hm : l = List.map (fun x : ByteArray => x) (d.1) := by rw [hl]; exact (List.map_id' _).symm
    rw [hm]
    exact q
  obtain ⟨a, cap, e0, e1, e2⟩ := key (d.1) rfl
  rw [arr2 hz e0 (crep_str (hs 1 _ rfl))]
  by_cases hl : (d.1) = []
  · rw [hl] at hr ⊢
    exact (Tryd.strings_Join_none a cap (d.2) w).mono (by rintro e w' ⟨rfl, rfl⟩; exact ⟨_, rfl, Below.refl _ _, by rw [← hr]; exact .str _⟩)
  · obtain ⟨bk, o, rfl, hb, hc⟩ := e2 hl
    exact (Tryd.strings_Join bk o cap (d.1) (d.2) w hc hb h1 e1 h2).mono (by rintro e w' ⟨rfl, hbw⟩; exact ⟨_, rfl, hbw, by rw [← hr]; exact .str _⟩)
theorem exts_ok : RowsOk Tryd.prog E X := ⟨ext84_ok, ext90_ok, trivial⟩
theorem oks : OrcOk Tryd.prog E (Sem E) := Sem_ok env_ok (drawn_ok env_ok) (extOk_of rfl exts_ok)
noncomputable def laws_FnExactNumbersText (aN_Dims : List Int) (aN_Nums : List Int) : Option (Bool) := Sem E ⟨6, 0, none⟩ (aN_Dims, aN_Nums)
noncomputable def laws_szNumbers (a_Dims : List Int) (a_Nums : List Int) (left : Int) : Option (Int) := Sem E ⟨22, 0, none⟩ (a_Dims, a_Nums, left)
noncomputable def laws_szInt64S (a : List Int) (left : Int) : Option (Int) := Sem E ⟨52, 0, none⟩ (a, left)
noncomputable def laws_toNumbers (a_Dims : List Int) (a_Nums : List Int) : Option (List Int × List Int) := Sem E ⟨24, 0, none⟩ (a_Dims, a_Nums)
noncomputable def laws_toInt64S (a : List Int) : Option (List Int) := Sem E ⟨54, 0, none⟩ a
noncomputable def laws_toInt64S_l3 (a : List Int) (i : Int) (out : List Int) : Option (List Int) := Sem E ⟨54, 0, some 3⟩ (a, i, out)
noncomputable def spec_NumbersText (n_Dims : List Int) (n_Nums : List Int) : Option (ByteArray) := Sem E ⟨23, 0, none⟩ (n_Dims, n_Nums)
noncomputable def spec_l25Ok (n_Dims : List Int) (n_Max : List Int) : Option (Bool) := Sem E ⟨58, 0, none⟩ (n_Dims, n_Max)
noncomputable def spec_l25Ok_l4 (i : Int) (n_Dims : List Int) (n_Max : List Int) : Option (Bool) := Sem E ⟨58, 0, some 4⟩ (i, n_Dims, n_Max)
noncomputable def spec_l05Dims (dims : List Int) : Option (Bool) := Sem E ⟨91, 0, none⟩ dims
noncomputable def spec_l05Dims_l5 (dims : List Int) (n : Int) (i : Int) : Option (Bool) := Sem E ⟨91, 0, some 5⟩ (dims, n, i)
noncomputable def spec_l00In (n : Int) (low : Int) (high : Int) : Option (Bool) := Sem E ⟨39, 0, none⟩ (n, low, high)
noncomputable def spec_l05Count (dims : List Int) : Option (Int) := Sem E ⟨93, 0, none⟩ dims
noncomputable def spec_l05Count_l3 (dims : List Int) (n : Int) (i : Int) : Option (Int) := Sem E ⟨93, 0, some 3⟩ (dims, n, i)
noncomputable def spec_l25Fits (n : Int) : Option (Bool) := Sem E ⟨94, 0, none⟩ n
noncomputable def spec_l32Text (n_Dims : List Int) (n_Max : List Int) : Option (ByteArray) := Sem E ⟨59, 0, none⟩ (n_Dims, n_Max)
noncomputable def spec_l32Text_l3 (out : ByteArray) (i : Int) (n_Dims : List Int) (n_Max : List Int) : Option (ByteArray) := Sem E ⟨59, 0, some 3⟩ (out, i, n_Dims, n_Max)
noncomputable def spec_l05List (list : List Int) : Option (ByteArray) := Sem E ⟨95, 0, none⟩ list
noncomputable def spec_l05List_l3 (list : List Int) (out : ByteArray) (i : Int) : Option (ByteArray) := Sem E ⟨95, 0, some 3⟩ (list, out, i)
noncomputable def spec_l05Digits (n : Int) : Option (ByteArray) := Sem E ⟨47, 0, none⟩ n
noncomputable def impl_NumbersText (n_Dims : List Int) (n_Nums : List Int) : Option (ByteArray) := Sem E ⟨25, 0, none⟩ (n_Dims, n_Nums)
noncomputable def impl_ValidNumbers (n_Dims : List Int) (n_Nums : List Int) : Option (Bool) := Sem E ⟨60, 0, none⟩ (n_Dims, n_Nums)
noncomputable def impl_ValidDims (dims : List Int) : Option (Bool) := Sem E ⟨92, 0, none⟩ dims
noncomputable def impl_allWithin (list : List Int) (low : Int) (high : Int) : Option (Bool) := Sem E ⟨97, 0, none⟩ (list, low, high)
noncomputable def slices_ContainsFunc_sint64_int64_d_allWithin_1 (s : List Int) (c0 : Int) (c1 : Int) : Option (Bool) := Sem E ⟨120, 0, none⟩ (s, c0, c1)
noncomputable def slices_IndexFunc_sint64_int64_d_allWithin_1 (s : List Int) (c0 : Int) (c1 : Int) : Option (Int) := Sem E ⟨138, 0, none⟩ (s, c0, c1)
noncomputable def slices_IndexFunc_sint64_int64_d_allWithin_1_l2 (s : List Int) (t7 : Int) (t8 : Int) (c0 : Int) (c1 : Int) : Option (Int) := Sem E ⟨138, 0, some 2⟩ (s, t7, t8, c0, c1)
noncomputable def impl_allWithin_1 (n : Int) (t1 : Int) (t2 : Int) : Option (Bool) := Sem E ⟨121, 0, none⟩ (n, t1, t2)
noncomputable def impl_within (n : Int) (low : Int) (high : Int) : Option (Bool) := Sem E ⟨42, 0, none⟩ (n, low, high)
noncomputable def impl_product (list : List Int) : Option (Int) := Sem E ⟨96, 0, none⟩ list
noncomputable def impl_product_l3 (out : Int) (t6 : List Int) (t7 : Int) (t8 : Int) : Option (Int) := Sem E ⟨96, 0, some 3⟩ (out, t6, t7, t8)
noncomputable def impl_Numbers_text (n_Dims : List Int) (n_Nums : List Int) : Option (ByteArray) := Sem E ⟨61, 0, none⟩ (n_Dims, n_Nums)
noncomputable def impl_Numbers_text_l3 (t13 : List Int) (t14 : Int) (t15 : Int) (words : List ByteArray) : Option (ByteArray) := Sem E ⟨61, 0, some 3⟩ (t13, t14, t15, words)
noncomputable def impl_listText (list : List Int) : Option (ByteArray) := Sem E ⟨98, 0, none⟩ list
noncomputable def impl_listText_l3 (t6 : List Int) (t7 : Int) (t8 : Int) (words : List ByteArray) : Option (ByteArray) := Sem E ⟨98, 0, some 3⟩ (t6, t7, t8, words)
noncomputable def impl_decimal (n : Int) : Option (ByteArray) := Sem E ⟨44, 0, none⟩ n
noncomputable def strconv_FormatInt (x0 : Int) (x1 : Int) : Option (ByteArray) := Sem E ⟨84, 0, none⟩ (x0, x1)
noncomputable def strings_Join (x0 : List ByteArray) (x1 : ByteArray) : Option (ByteArray) := Sem E ⟨90, 0, none⟩ (x0, x1)
noncomputable def laws_eqNumbers (a_Dims : List Int) (a_Nums : List Int) (b_Dims : List Int) (b_Nums : List Int) : Option (Bool) := Sem E ⟨26, 0, none⟩ (a_Dims, a_Nums, b_Dims, b_Nums)
noncomputable def laws_eqInt64S (a : List Int) (b : List Int) : Option (Bool) := Sem E ⟨57, 0, none⟩ (a, b)
noncomputable def laws_eqInt64S_l4 (a : List Int) (b : List Int) (i : Int) : Option (Bool) := Sem E ⟨57, 0, some 4⟩ (a, b, i)
end Go.Ve.X
