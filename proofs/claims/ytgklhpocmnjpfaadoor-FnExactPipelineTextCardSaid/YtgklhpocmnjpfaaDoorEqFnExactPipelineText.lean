/- The equations of the functions that 'FnExactPipelineText' reaches (printed by plan.py): what each answers. No condition. -/
import Derived.Test.YtgklhpocmnjpfaaDoorEnvFnExactPipelineText
namespace Go.Ve.X
open Go.Proofs Go.Ve Go.RowKit
set_option linter.unusedVariables false
set_option maxRecDepth 100000
theorem laws_FnExactPipelineText_eq (aList : List (Int × Int × Bool)) :
    laws_FnExactPipelineText aList = (
      sbind (laws_szFilterS aList 1048576) fun r1 =>
      sif (decide (r1 < 0)) (some true) <|
      sbind (laws_toFilterS aList) fun r2 =>
      sbind (spec_PipelineText r2) fun r3 =>
      sbind (laws_toFilterS aList) fun r4 =>
      sbind (impl_PipelineText r4) fun r5 =>
      sif (!seq r5 r3) (some false) <|
      sbind (laws_toFilterS aList) fun r6 =>
      sbind (laws_eqFilterS r4 r6) fun r7 =>
      sif (!r7) (some false) (some true)) := sem_eq (f := 4) (m := 0) rfl (by kernel_rfl)
theorem laws_szFilterS_eq (a : List (Int × Int × Bool)) (left : Int) :
    laws_szFilterS a left = (
      sif (decide (wi64 (left - (a.length : Int)) < 0)) (some (-1)) (some (wi64 (left - (a.length : Int))))) := sem_eq (f := 12) (m := 0) rfl (by kernel_rfl)
theorem laws_toFilterS_eq (a : List (Int × Int × Bool)) :
    laws_toFilterS a = (
      sif (le3 0 (a.length : Int) (a.length : Int) && room a.length 24) (laws_toFilterS_l3 a 0 (List.replicate a.length ((0, 0, false) : Int × Int × Bool))) (none)) := sem_eq (f := 14) (m := 0) rfl (by kernel_rfl)
theorem laws_toFilterS_l3_eq (a : List (Int × Int × Bool)) (i : Int) (out : List (Int × Int × Bool)) :
    laws_toFilterS_l3 a i out = (
      sif (decide (i < (a.length : Int)))
       (sbind (idx a i) fun x1 =>
        sbind (laws_toFilter x1.1 x1.2.1 x1.2.2) fun r2 =>
        sif (lt3 0 i (out.length : Int)) (laws_toFilterS_l3 a (wi64 (i + 1)) (out.set i.toNat (r2.1, r2.2.1, r2.2.2))) (none)) (some out)) := seml_eq (f := 14) (m := 0) (l := 3) (by kernel_rfl)
theorem laws_toFilter_eq (a_Kind : Int) (a_Param : Int) (a_Optional : Bool) :
    laws_toFilter a_Kind a_Param a_Optional = (
      some (a_Kind, a_Param, a_Optional)) := sem_eq (f := 48) (m := 0) rfl (by kernel_rfl)
theorem spec_PipelineText_eq (list : List (Int × Int × Bool)) :
    spec_PipelineText list = (
      sbind (spec_l19Ok list) fun r1 =>
      sif (!r1) (some (bs [])) <|
      sif (((list.length : Int) == 0)) (some (bs [110, 111, 110, 101])) (spec_PipelineText_l7 list (bs []) 0)) := sem_eq (f := 13) (m := 0) rfl (by kernel_rfl)
theorem spec_PipelineText_l7_eq (list : List (Int × Int × Bool)) (out : ByteArray) (i : Int) :
    spec_PipelineText_l7 list out i = (
      sif (decide (i < (list.length : Int)))
       (sbind (idx list i) fun x1 =>
        sif (decide (i > 0))
         (sif (joins out (bs [43]))
           (sbind (spec_l19Words ()) fun r2 =>
            sif (lt3 0 x1.1 (r2.length : Int))
             (sbind (r2[x1.1.toNat]?) fun x3 =>
              sif (joins (out ++ (bs [43])) x3)
               (sif (decide (x1.2.1 > 0))
                 (sbind (spec_l05Digits x1.2.1) fun r4 =>
                  sif (joins (bs [40]) r4)
                   (sif (joins ((bs [40]) ++ r4) (bs [41]))
                     (sif (joins ((out ++ (bs [43])) ++ x3) (((bs [40]) ++ r4) ++ (bs [41])))
                       (sif (x1.2.2)
                         (sif (joins (((out ++ (bs [43])) ++ x3) ++ (((bs [40]) ++ r4) ++ (bs [41]))) (bs [63]))
                           (spec_PipelineText_l7 list ((((out ++ (bs [43])) ++ x3) ++ (((bs [40]) ++ r4) ++ (bs [41]))) ++ (bs [63])) (wi64 (i + 1))) (none)) <|
                        spec_PipelineText_l7 list (((out ++ (bs [43])) ++ x3) ++ (((bs [40]) ++ r4) ++ (bs [41]))) (wi64 (i + 1))) (none)) (none)) (none)) <|
                sif (x1.2.2)
                 (sif (joins ((out ++ (bs [43])) ++ x3) (bs [63]))
                   (spec_PipelineText_l7 list (((out ++ (bs [43])) ++ x3) ++ (bs [63])) (wi64 (i + 1))) (none)) <|
                spec_PipelineText_l7 list ((out ++ (bs [43])) ++ x3) (wi64 (i + 1))) (none)) (none)) (none)) <|
        sbind (spec_l19Words ()) fun r2 =>
        sif (lt3 0 x1.1 (r2.length : Int))
         (sbind (r2[x1.1.toNat]?) fun x3 =>
          sif (joins out x3)
           (sif (decide (x1.2.1 > 0))
             (sbind (spec_l05Digits x1.2.1) fun r4 =>
              sif (joins (bs [40]) r4)
               (sif (joins ((bs [40]) ++ r4) (bs [41]))
                 (sif (joins (out ++ x3) (((bs [40]) ++ r4) ++ (bs [41])))
                   (sif (x1.2.2)
                     (sif (joins ((out ++ x3) ++ (((bs [40]) ++ r4) ++ (bs [41]))) (bs [63]))
                       (spec_PipelineText_l7 list (((out ++ x3) ++ (((bs [40]) ++ r4) ++ (bs [41]))) ++ (bs [63])) (wi64 (i + 1))) (none)) <|
                    spec_PipelineText_l7 list ((out ++ x3) ++ (((bs [40]) ++ r4) ++ (bs [41]))) (wi64 (i + 1))) (none)) (none)) (none)) <|
            sif (x1.2.2)
             (sif (joins (out ++ x3) (bs [63])) (spec_PipelineText_l7 list ((out ++ x3) ++ (bs [63])) (wi64 (i + 1))) (none)) <|
            spec_PipelineText_l7 list (out ++ x3) (wi64 (i + 1))) (none)) (none)) (some out)) := seml_eq (f := 13) (m := 0) (l := 7) (by kernel_rfl)
theorem spec_l19Ok_eq (list : List (Int × Int × Bool)) :
    spec_l19Ok list = (
      spec_l19Ok_l2 list 0) := sem_eq (f := 45) (m := 0) rfl (by kernel_rfl)
theorem spec_l19Ok_l2_eq (list : List (Int × Int × Bool)) (i : Int) :
    spec_l19Ok_l2 list i = (
      sif (decide (i < (list.length : Int)))
       (sbind (idx list i) fun x1 =>
        sbind (spec_l18Ok x1.1 x1.2.1 x1.2.2) fun r2 =>
        sif (!r2) (some false) (spec_l19Ok_l2 list (wi64 (i + 1)))) (some (decide ((list.length : Int) ≤ 4)))) := seml_eq (f := 45) (m := 0) (l := 2) (by kernel_rfl)
theorem spec_l18Ok_eq (f_Kind : Int) (f_Param : Int) (f_Optional : Bool) :
    spec_l18Ok f_Kind f_Param f_Optional = (
      sif ((f_Kind == 1))
       (sbind (spec_l00In f_Param 1 24) fun r1 =>
        sif (r1) (some !f_Optional) (some false)) <|
      sif ((f_Kind == 2))
       (sif ((f_Param == 1)) (some !f_Optional) <|
        sif ((f_Param == 2)) (some !f_Optional) <|
        sif ((f_Param == 4)) (some !f_Optional) (some false)) <|
      sif ((f_Kind == 3))
       (sif ((f_Kind == 3)) (some (f_Param == 0)) <|
        sif ((f_Kind == 5)) (sif ((f_Param == 0)) (some !f_Optional) (some false)) (some false)) <|
      sif ((f_Kind == 4)) (some (f_Param == 0)) <|
      sif ((f_Kind == 5)) (sif ((f_Param == 0)) (some !f_Optional) (some false)) (some false)) := sem_eq (f := 85) (m := 0) rfl (by kernel_rfl)
theorem spec_l00In_eq (n : Int) (low : Int) (high : Int) :
    spec_l00In n low high = (
      sif (decide (n ≥ low)) (some (decide (n ≤ high))) (some false)) := sem_eq (f := 39) (m := 0) rfl (by kernel_rfl)
theorem spec_l19Words_eq  :
    spec_l19Words () = (
      some [bs [], bs [115, 104, 117, 102, 102, 108, 101], bs [100, 101, 108, 116, 97], bs [114, 117, 110], bs [108, 122], bs [115, 117, 109]]) := sem_eq (f := 46) (m := 0) rfl (by kernel_rfl)
theorem spec_l05Digits_eq (n : Int) :
    spec_l05Digits n = (
      sif (decide (n < 0))
       (sbind (spec_l05Digits (wi64 (0 - n))) fun r1 =>
        sif (joins (bs [45]) r1) (some ((bs [45]) ++ r1)) (none)) <|
      sif (decide (n < 10)) (some (toB [wu8 (wi64 (48 + n))])) <|
      sbind (spec_l05Digits (wi64 (Int.tdiv n 10))) fun r1 =>
      sif (joins r1 (toB [wu8 (wi64 (48 + (Int.tmod n 10)))])) (some (r1 ++ (toB [wu8 (wi64 (48 + (Int.tmod n 10)))]))) (none)) := sem_eq (f := 47) (m := 0) rfl (by kernel_rfl)
theorem impl_PipelineText_eq (list : List (Int × Int × Bool)) :
    impl_PipelineText list = (
      sbind (impl_ValidPipeline list) fun r1 =>
      sif (!r1) (some (bs [])) <|
      sbind (impl_pipelineText list) fun r2 =>
      some r2) := sem_eq (f := 15) (m := 0) rfl (by kernel_rfl)
theorem impl_ValidPipeline_eq (list : List (Int × Int × Bool)) :
    impl_ValidPipeline list = (
      sif (decide ((list.length : Int) ≤ 4))
       (sbind (slices_ContainsFunc_simpl_Filter_impl_Filter_d_ValidPipeline_1 list) fun r1 =>
        some !r1) (some false)) := sem_eq (f := 49) (m := 0) rfl (by kernel_rfl)
theorem slices_ContainsFunc_simpl_Filter_impl_Filter_d_ValidPipeline_1_eq (s : List (Int × Int × Bool)) :
    slices_ContainsFunc_simpl_Filter_impl_Filter_d_ValidPipeline_1 s = (
      sbind (slices_IndexFunc_simpl_Filter_impl_Filter_d_ValidPipeline_1 s) fun r1 =>
      some (decide (r1 ≥ 0))) := sem_eq (f := 86) (m := 0) rfl (by kernel_rfl)
theorem slices_IndexFunc_simpl_Filter_impl_Filter_d_ValidPipeline_1_eq (s : List (Int × Int × Bool)) :
    slices_IndexFunc_simpl_Filter_impl_Filter_d_ValidPipeline_1 s = (
      slices_IndexFunc_simpl_Filter_impl_Filter_d_ValidPipeline_1_l2 s (s.length : Int) 0) := sem_eq (f := 115) (m := 0) rfl (by kernel_rfl)
theorem slices_IndexFunc_simpl_Filter_impl_Filter_d_ValidPipeline_1_l2_eq (s : List (Int × Int × Bool)) (t7 : Int) (t8 : Int) :
    slices_IndexFunc_simpl_Filter_impl_Filter_d_ValidPipeline_1_l2 s t7 t8 = (
      sif (decide (t8 < t7))
       (sbind (idx s t8) fun x1 =>
        sbind (impl_ValidPipeline_1 x1.1 x1.2.1 x1.2.2) fun r2 =>
        sif (r2) (some t8) <|
        slices_IndexFunc_simpl_Filter_impl_Filter_d_ValidPipeline_1_l2 s t7 (wi64 (t8 + 1))) (some (-1))) := seml_eq (f := 115) (m := 0) (l := 2) (by kernel_rfl)
theorem impl_ValidPipeline_1_eq (f_Kind : Int) (f_Param : Int) (f_Optional : Bool) :
    impl_ValidPipeline_1 f_Kind f_Param f_Optional = (
      sbind (impl_ValidFilter f_Kind f_Param f_Optional) fun r1 =>
      some !r1) := sem_eq (f := 87) (m := 0) rfl (by kernel_rfl)
theorem impl_ValidFilter_eq (f_Kind : Int) (f_Param : Int) (f_Optional : Bool) :
    impl_ValidFilter f_Kind f_Param f_Optional = (
      sif ((f_Kind == 1))
       (sbind (impl_within f_Param 1 24) fun r1 =>
        sif (r1) (some !f_Optional) (some false)) <|
      sif ((f_Kind == 2))
       (sbind (impl_isWidth f_Param) fun r1 =>
        sif (r1) (some !f_Optional) (some false)) <|
      sif ((f_Kind == 3))
       (sif ((f_Kind == 3)) (some (f_Param == 0)) <|
        sif ((f_Kind == 5)) (sif ((f_Param == 0)) (some !f_Optional) (some false)) (some false)) <|
      sif ((f_Kind == 4)) (some (f_Param == 0)) <|
      sif ((f_Kind == 5)) (sif ((f_Param == 0)) (some !f_Optional) (some false)) (some false)) := sem_eq (f := 88) (m := 0) rfl (by kernel_rfl)
theorem impl_within_eq (n : Int) (low : Int) (high : Int) :
    impl_within n low high = (
      sif (decide (n ≥ low)) (some (decide (n ≤ high))) (some false)) := sem_eq (f := 42) (m := 0) rfl (by kernel_rfl)
theorem impl_isWidth_eq (width : Int) :
    impl_isWidth width = (
      sif ((width == 1)) (some true) (sif ((width == 2)) (some true) (some (width == 4)))) := sem_eq (f := 116) (m := 0) rfl (by kernel_rfl)
theorem impl_pipelineText_eq (list : List (Int × Int × Bool)) :
    impl_pipelineText list = (
      sif (((list.length : Int) == 0)) (some (bs [110, 111, 110, 101])) <|
      impl_pipelineText_l5 list (list.length : Int) 0 ([] : List ByteArray)) := sem_eq (f := 50) (m := 0) rfl (by kernel_rfl)
theorem impl_pipelineText_l5_eq (t9 : List (Int × Int × Bool)) (t10 : Int) (t11 : Int) (words : List ByteArray) :
    impl_pipelineText_l5 t9 t10 t11 words = (
      sif (decide (t11 < t10))
       (sbind (idx t9 t11) fun x1 =>
        sbind (impl_Filter_text x1.1 x1.2.1 x1.2.2) fun r2 =>
        sif (room (words.length + 1) 16) (impl_pipelineText_l5 t9 t10 (wi64 (t11 + 1)) (words ++ [r2])) (none)) <|
      sbind (strings_Join words (bs [43])) fun r1 =>
      some r1) := seml_eq (f := 50) (m := 0) (l := 5) (by kernel_rfl)
theorem impl_Filter_text_eq (f_Kind : Int) (f_Param : Int) (f_Optional : Bool) :
    impl_Filter_text f_Kind f_Param f_Optional = (
      sbind (idx [bs [], bs [115, 104, 117, 102, 102, 108, 101], bs [100, 101, 108, 116, 97], bs [114, 117, 110], bs [108, 122], bs [115, 117, 109]] f_Kind) fun x1 =>
      sif ((f_Kind == 1))
       (sbind (impl_decimal f_Param) fun r2 =>
        sif (joins (bs [40]) r2)
         (sif (joins ((bs [40]) ++ r2) (bs [41]))
           (sif (joins x1 (((bs [40]) ++ r2) ++ (bs [41])))
             (sif (f_Optional)
               (sif (joins (x1 ++ (((bs [40]) ++ r2) ++ (bs [41]))) (bs [63])) (some ((x1 ++ (((bs [40]) ++ r2) ++ (bs [41]))) ++ (bs [63]))) (none)) <|
              some (x1 ++ (((bs [40]) ++ r2) ++ (bs [41])))) (none)) (none)) (none)) <|
      sif ((f_Kind == 2))
       (sbind (impl_decimal f_Param) fun r2 =>
        sif (joins (bs [40]) r2)
         (sif (joins ((bs [40]) ++ r2) (bs [41]))
           (sif (joins x1 (((bs [40]) ++ r2) ++ (bs [41])))
             (sif (f_Optional)
               (sif (joins (x1 ++ (((bs [40]) ++ r2) ++ (bs [41]))) (bs [63])) (some ((x1 ++ (((bs [40]) ++ r2) ++ (bs [41]))) ++ (bs [63]))) (none)) <|
              some (x1 ++ (((bs [40]) ++ r2) ++ (bs [41])))) (none)) (none)) (none)) <|
      sif (f_Optional) (sif (joins x1 (bs [63])) (some (x1 ++ (bs [63]))) (none)) (some x1)) := sem_eq (f := 89) (m := 0) rfl (by kernel_rfl)
theorem impl_decimal_eq (n : Int) :
    impl_decimal n = (
      sbind (strconv_FormatInt n 10) fun r1 =>
      some r1) := sem_eq (f := 44) (m := 0) rfl (by kernel_rfl)
theorem strconv_FormatInt_eq (x0 : Int) (x1 : Int) : strconv_FormatInt x0 x1 = fmtInt x0 x1 := ext_eq (E := E) (f := 84) (m := 0) (g := fun (d : Int × Int) => (fmtInt (d.1) (d.2) : Option (ByteArray))) (by kernel_rfl) (x0, x1)
theorem strings_Join_eq (x0 : List ByteArray) (x1 : ByteArray) : strings_Join x0 x1 = joinI x0 x1 := ext_eq (E := E) (f := 90) (m := 0) (g := fun (d : List ByteArray × ByteArray) => (joinI (d.1) (d.2) : Option (ByteArray))) (by kernel_rfl) (x0, x1)
theorem laws_eqFilterS_eq (a : List (Int × Int × Bool)) (b : List (Int × Int × Bool)) :
    laws_eqFilterS a b = (
      sif (((a.length : Int) != (b.length : Int))) (some false) (laws_eqFilterS_l4 a b 0)) := sem_eq (f := 16) (m := 0) rfl (by kernel_rfl)
theorem laws_eqFilterS_l4_eq (a : List (Int × Int × Bool)) (b : List (Int × Int × Bool)) (i : Int) :
    laws_eqFilterS_l4 a b i = (
      sif (decide (i < (a.length : Int)))
       (sbind (idx a i) fun x1 =>
        sbind (idx b i) fun x2 =>
        sbind (laws_eqFilter x1.1 x1.2.1 x1.2.2 x2.1 x2.2.1 x2.2.2) fun r3 =>
        sif (!r3) (some false) (laws_eqFilterS_l4 a b (wi64 (i + 1)))) (some true)) := seml_eq (f := 16) (m := 0) (l := 4) (by kernel_rfl)
theorem laws_eqFilter_eq (a_Kind : Int) (a_Param : Int) (a_Optional : Bool) (b_Kind : Int) (b_Param : Int) (b_Optional : Bool) :
    laws_eqFilter a_Kind a_Param a_Optional b_Kind b_Param b_Optional = (
      sif ((a_Kind != b_Kind)) (some false) <|
      sif ((a_Param != b_Param)) (some false) <|
      sif (!(a_Optional == b_Optional)) (some false) (some true)) := sem_eq (f := 51) (m := 0) rfl (by kernel_rfl)
end Go.Ve.X
