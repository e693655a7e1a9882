/- The equations of the functions that 'FnExactProblemText' reaches (printed by plan.py): what each answers. No condition. -/
import Derived.Test.YtgklhpocmnjpfaaDoorEnvFnExactProblemText
namespace Go.Ve.X
open Go.Proofs Go.Ve Go.RowKit
set_option linter.unusedVariables false
set_option maxRecDepth 100000
theorem laws_FnExactProblemText_eq (aX_Kind : Int) (aX_Block : Int) :
    laws_FnExactProblemText aX_Kind aX_Block = (
      sbind (laws_toProblem aX_Kind aX_Block) fun r1 =>
      sbind (spec_ProblemText r1.1 r1.2) fun r2 =>
      sbind (laws_toProblem aX_Kind aX_Block) fun r3 =>
      sbind (impl_ProblemText r3.1 r3.2) fun r4 =>
      sif (!seq r4 r2) (some false) (some true)) := sem_eq (f := 3) (m := 0) rfl (by kernel_rfl)
theorem laws_toProblem_eq (a_Kind : Int) (a_Block : Int) :
    laws_toProblem a_Kind a_Block = (
      some (a_Kind, a_Block)) := sem_eq (f := 10) (m := 0) rfl (by kernel_rfl)
theorem spec_ProblemText_eq (x_Kind : Int) (x_Block : Int) :
    spec_ProblemText x_Kind x_Block = (
      sbind (spec_l00In x_Kind 1 12) fun r1 =>
      sif (!r1) (some (bs [])) <|
      sbind (spec_l00In x_Block 0 255) fun r2 =>
      sif (!r2) (some (bs [])) <|
      sbind (spec_l28Words ()) fun r3 =>
      sif (lt3 0 x_Kind (r3.length : Int))
       (sbind (r3[x_Kind.toNat]?) fun x4 =>
        sif (joins x4 (bs [32]))
         (sbind (spec_l02Dec x_Block) fun r5 =>
          sif (joins (x4 ++ (bs [32])) r5) (some ((x4 ++ (bs [32])) ++ r5)) (none)) (none)) (none)) := sem_eq (f := 9) (m := 0) rfl (by kernel_rfl)
theorem spec_l00In_eq (n : Int) (low : Int) (high : Int) :
    spec_l00In n low high = (
      sif (decide (n ≥ low)) (some (decide (n ≤ high))) (some false)) := sem_eq (f := 39) (m := 0) rfl (by kernel_rfl)
theorem spec_l28Words_eq  :
    spec_l28Words () = (
      some [bs [], bs [114, 111, 111, 116], bs [111, 98, 106, 101, 99, 116], bs [103, 114, 111, 117, 112], bs [114, 101, 102, 115], bs [100, 97, 116, 97, 115, 101, 116], bs [105, 110, 100, 101, 120], bs [99, 104, 117, 110, 107], bs [97, 116, 116, 114, 105, 98, 117, 116, 101], bs [118, 105, 114, 116, 117, 97, 108], bs [115, 104, 97, 114, 101, 100], bs [102, 114, 101, 101], bs [108, 101, 97, 107]]) := sem_eq (f := 40) (m := 0) rfl (by kernel_rfl)
theorem spec_l02Dec_eq (n : Int) :
    spec_l02Dec n = (
      spec_l02Dec_l3 n (bs []) n) := sem_eq (f := 41) (m := 0) rfl (by kernel_rfl)
theorem spec_l02Dec_l3_eq (n : Int) (out : ByteArray) (rest : Int) :
    spec_l02Dec_l3 n out rest = (
      sif (seq out (bs []))
       (sif (decide (Int.tmod rest 10 < 0))
         (sbind (spec_l02Byte (wi64 (48 + (wi64 (0 - (Int.tmod rest 10)))))) fun r1 =>
          sif (joins r1 out) (spec_l02Dec_l3 n (r1 ++ out) (wi64 (Int.tdiv rest 10))) (none)) <|
        sbind (spec_l02Byte (wi64 (48 + (Int.tmod rest 10)))) fun r1 =>
        sif (joins r1 out) (spec_l02Dec_l3 n (r1 ++ out) (wi64 (Int.tdiv rest 10))) (none)) <|
      sif ((rest != 0))
       (sif (decide (Int.tmod rest 10 < 0))
         (sbind (spec_l02Byte (wi64 (48 + (wi64 (0 - (Int.tmod rest 10)))))) fun r1 =>
          sif (joins r1 out) (spec_l02Dec_l3 n (r1 ++ out) (wi64 (Int.tdiv rest 10))) (none)) <|
        sbind (spec_l02Byte (wi64 (48 + (Int.tmod rest 10)))) fun r1 =>
        sif (joins r1 out) (spec_l02Dec_l3 n (r1 ++ out) (wi64 (Int.tdiv rest 10))) (none)) <|
      sif (decide (n < 0)) (sif (joins (bs [45]) out) (some ((bs [45]) ++ out)) (none)) (some out)) := seml_eq (f := 41) (m := 0) (l := 3) (by kernel_rfl)
theorem spec_l02Byte_eq (n : Int) :
    spec_l02Byte n = (
      some (toB [wu8 n])) := sem_eq (f := 83) (m := 0) rfl (by kernel_rfl)
theorem impl_ProblemText_eq (x_Kind : Int) (x_Block : Int) :
    impl_ProblemText x_Kind x_Block = (
      sbind (impl_within x_Kind 1 12) fun r1 =>
      sif (!r1) (some (bs [])) <|
      sbind (impl_within x_Block 0 255) fun r2 =>
      sif (!r2) (some (bs [])) <|
      sbind (impl_problemWords ()) fun r3 =>
      sif (lt3 0 x_Kind (r3.length : Int))
       (sbind (r3[x_Kind.toNat]?) fun x4 =>
        sif (joins x4 (bs [32]))
         (sbind (impl_decimal x_Block) fun r5 =>
          sif (joins (x4 ++ (bs [32])) r5) (some ((x4 ++ (bs [32])) ++ r5)) (none)) (none)) (none)) := sem_eq (f := 11) (m := 0) rfl (by kernel_rfl)
theorem impl_within_eq (n : Int) (low : Int) (high : Int) :
    impl_within n low high = (
      sif (decide (n ≥ low)) (some (decide (n ≤ high))) (some false)) := sem_eq (f := 42) (m := 0) rfl (by kernel_rfl)
theorem impl_problemWords_eq  :
    impl_problemWords () = (
      some [bs [], bs [114, 111, 111, 116], bs [111, 98, 106, 101, 99, 116], bs [103, 114, 111, 117, 112], bs [114, 101, 102, 115], bs [100, 97, 116, 97, 115, 101, 116], bs [105, 110, 100, 101, 120], bs [99, 104, 117, 110, 107], bs [97, 116, 116, 114, 105, 98, 117, 116, 101], bs [118, 105, 114, 116, 117, 97, 108], bs [115, 104, 97, 114, 101, 100], bs [102, 114, 101, 101], bs [108, 101, 97, 107]]) := sem_eq (f := 43) (m := 0) rfl (by kernel_rfl)
theorem impl_decimal_eq (n : Int) :
    impl_decimal n = (
      sbind (strconv_FormatInt n 10) fun r1 =>
      some r1) := sem_eq (f := 44) (m := 0) rfl (by kernel_rfl)
theorem strconv_FormatInt_eq (x0 : Int) (x1 : Int) : strconv_FormatInt x0 x1 = fmtInt x0 x1 := ext_eq (E := E) (f := 84) (m := 0) (g := fun (d : Int × Int) => (fmtInt (d.1) (d.2) : Option (ByteArray))) (by kernel_rfl) (x0, x1)
end Go.Ve.X
