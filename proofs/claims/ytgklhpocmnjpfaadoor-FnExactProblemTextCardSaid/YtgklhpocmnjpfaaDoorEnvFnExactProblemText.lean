/- The environment of 'FnExactProblemText' for the evaluator: kinds of elements, layouts of the functions that it reaches (printed by plan.py). No condition. -/
import Derived.Test.YtgklhpocmnjpfaaDoorVeC
import Derived.Test.YtgklhpocmnjpfaaDoorLayFnExactProblemText
import Derived.Test.YtgklhpocmnjpfaaDoorProg
namespace Go.Ve.X
open Go.Proofs Go.Ve Go.RowKit
set_option linter.unusedVariables false
set_option maxRecDepth 100000
inductive El | e5 | e9 | z
def El.K : El → Type | .e5 => Int | .e9 => ByteArray | .z => Unit
def El.sh : El → List TS | .e5 => [.int .u8] | .e9 => [.str] | .z => []
def code (n : Nat) : El := match n with | 5 => .e5 | 9 => .e9 | _ => .z
def KK (n : Nat) : Type := (code n).K
def El.toT : (c : El) → c.K → TL KK c.sh | .e5 => fun x => x | .e9 => fun x => x | .z => fun _ => ()
def El.ofT : (c : El) → TL KK c.sh → c.K | .e5 => fun x => x | .e9 => fun x => x | .z => fun _ => ()
theorem El.law (c : El) (t : TL KK c.sh) : c.toT (c.ofT t) = t := by cases c <;> rfl
noncomputable def S : Sig where
  K := KK
  sh := fun n => (code n).sh
  toT := fun n => (code n).toT
  ofT := fun n => (code n).ofT
  law := fun n => (code n).law
  u8 := 5
  bt := none
  ofB := fun s => Ve.ofB s
  toB := fun l => Ve.toB l
  fixd := tabFix ((Tryd.prog.globalNamed "internal/strconv.uint64pow10").getD 0)
def L : List (Nat × Nat × Ann) := [
  (3, 0, { inL := ⟨[(0, .a [.d (.int .i64), .d (.int .i64)])], []⟩, outL := ⟨[(0, .c (.d (.bool)))], []⟩, labels := [] }),
  (10, 0, { inL := ⟨[(0, .a [.d (.int .i64), .d (.int .i64)])], []⟩, outL := ⟨[(0, .a [.d (.int .i64), .d (.int .i64)])], []⟩, labels := [] }),
  (9, 0, { inL := ⟨[(0, .a [.d (.int .i64), .d (.int .i64)])], []⟩, outL := ⟨[(0, .c (.d (.str)))], []⟩, labels := [] }),
  (39, 0, { inL := ⟨[(0, .c (.d (.int .i64))), (1, .c (.d (.int .i64))), (2, .c (.d (.int .i64)))], []⟩, outL := ⟨[(0, .c (.d (.bool)))], []⟩, labels := [] }),
  (40, 0, { inL := ⟨[], []⟩, outL := ⟨[(0, .c (.vec 0))], [.vec 9]⟩, labels := [] }),
  (41, 0, { inL := ⟨[(0, .c (.d (.int .i64)))], []⟩, outL := ⟨[(0, .c (.d (.str)))], []⟩, labels := [(3, ⟨[(0, .c (.d (.int .i64))), (3, .c (.d (.str))), (4, .c (.d (.int .i64)))], []⟩)] }),
  (83, 0, { inL := ⟨[(0, .c (.d (.int .i64)))], []⟩, outL := ⟨[(0, .c (.d (.str)))], []⟩, labels := [] }),
  (11, 0, { inL := ⟨[(0, .a [.d (.int .i64), .d (.int .i64)])], []⟩, outL := ⟨[(0, .c (.d (.str)))], []⟩, labels := [] }),
  (42, 0, { inL := ⟨[(0, .c (.d (.int .i64))), (1, .c (.d (.int .i64))), (2, .c (.d (.int .i64)))], []⟩, outL := ⟨[(0, .c (.d (.bool)))], []⟩, labels := [] }),
  (43, 0, { inL := ⟨[], []⟩, outL := ⟨[(0, .c (.vec 0))], [.vec 9]⟩, labels := [] }),
  (44, 0, { inL := ⟨[(0, .c (.d (.int .i64)))], []⟩, outL := ⟨[(0, .c (.d (.str)))], []⟩, labels := [] }),
  (84, 0, { inL := ⟨[(0, .c (.d (.int .i64))), (1, .c (.d (.int .i64)))], []⟩, outL := ⟨[(0, .c (.d (.str)))], []⟩, labels := [] })]
noncomputable def X : List (ExtRow S (annOf Tryd.prog L)) := [⟨84, 0, fun d => fmtInt (d.1) (d.2)⟩]
@[reducible] noncomputable def E : Env := { S := S, tt := tdOf Tryd.prog, ann := annOf Tryd.prog L, ext := extAt S (annOf Tryd.prog L) X, eqs := fun t => get ([] : List (Nat × List TS)) t }
theorem rows_ok : rowsOk Tryd.prog L = true := by kernel_rfl
theorem env_ok : EnvOk Tryd.prog E := envOk_of (by kernel_rfl) rfl rfl rows_ok (eqs_nil) (by kernel_rfl) rfl ofB_len
  (fun s i x h => by
    obtain ⟨b, h1, h2⟩ := Ve.ofB_at (x := x) h
    exact ⟨b, h1, by rw [← h2]; rfl⟩)
  (fun l ns h hl => toB_row (fun i x hx => by
    obtain ⟨n, h1, h2⟩ := h i x hx
    have h2' : ([.int .u8 x] : List (Cell S.K)) = [.int .u8 n] := h2
    injection h2' with h2' _
    injection h2' with _ h2'
    rw [h1, h2']) hl)
theorem ext84_ok : ∀ (d : TL E.S.K (jobT E.ann ⟨84, 0, none⟩)) r, (fun d : Int × Int => (fmtInt (d.1) (d.2) : Option (ByteArray))) d = some r → CallOk Tryd.prog E 84 0 d r := by
  intro (d : Int × Int) (r : ByteArray) h
  refine flat_ok3 rfl (fun h => by cases h) (xs := [(0, .c (.int .i64 (d.1))), (1, .c (.int .i64 (d.2)))]) (res := [(0, .c (.str r))]) rfl rfl (fun Fz w vs hz hlt hfx hs => ?_)
  have h90 := crep_int (hs 0 _ rfl)
  have h91 := crep_int (hs 1 _ rfl)
  rw [arr2 hz h90 h91]
  obtain ⟨hb, h1, h2, hr⟩ := fmtInt_some h
  rw [hb]
  exact (Tryd.strconv_FormatInt_10 (d.1) h1 h2 w (tab_of_fixed _ rfl (by kernel_rfl) hfx)).mono (by rintro e w' ⟨rfl, k, os, rfl⟩; exact ⟨_, rfl, Lib.below_grow _ _ (Nat.le_refl _) _ _, by rw [← hr]; exact .str _⟩)
theorem exts_ok : RowsOk Tryd.prog E X := ⟨ext84_ok, trivial⟩
theorem oks : OrcOk Tryd.prog E (Sem E) := Sem_ok env_ok (drawn_ok env_ok) (extOk_of rfl exts_ok)
noncomputable def laws_FnExactProblemText (aX_Kind : Int) (aX_Block : Int) : Option (Bool) := Sem E ⟨3, 0, none⟩ (aX_Kind, aX_Block)
noncomputable def laws_toProblem (a_Kind : Int) (a_Block : Int) : Option (Int × Int) := Sem E ⟨10, 0, none⟩ (a_Kind, a_Block)
noncomputable def spec_ProblemText (x_Kind : Int) (x_Block : Int) : Option (ByteArray) := Sem E ⟨9, 0, none⟩ (x_Kind, x_Block)
noncomputable def spec_l00In (n : Int) (low : Int) (high : Int) : Option (Bool) := Sem E ⟨39, 0, none⟩ (n, low, high)
noncomputable def spec_l28Words (_u : Unit) : Option (List ByteArray) := Sem E ⟨40, 0, none⟩ ()
noncomputable def spec_l02Dec (n : Int) : Option (ByteArray) := Sem E ⟨41, 0, none⟩ n
noncomputable def spec_l02Dec_l3 (n : Int) (out : ByteArray) (rest : Int) : Option (ByteArray) := Sem E ⟨41, 0, some 3⟩ (n, out, rest)
noncomputable def spec_l02Byte (n : Int) : Option (ByteArray) := Sem E ⟨83, 0, none⟩ n
noncomputable def impl_ProblemText (x_Kind : Int) (x_Block : Int) : Option (ByteArray) := Sem E ⟨11, 0, none⟩ (x_Kind, x_Block)
noncomputable def impl_within (n : Int) (low : Int) (high : Int) : Option (Bool) := Sem E ⟨42, 0, none⟩ (n, low, high)
noncomputable def impl_problemWords (_u : Unit) : Option (List ByteArray) := Sem E ⟨43, 0, none⟩ ()
noncomputable def impl_decimal (n : Int) : Option (ByteArray) := Sem E ⟨44, 0, none⟩ n
noncomputable def strconv_FormatInt (x0 : Int) (x1 : Int) : Option (ByteArray) := Sem E ⟨84, 0, none⟩ (x0, x1)
end Go.Ve.X
