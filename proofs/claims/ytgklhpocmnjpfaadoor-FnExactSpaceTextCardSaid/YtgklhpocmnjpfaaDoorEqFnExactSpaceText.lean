/- The equations of the functions that 'FnExactSpaceText' reaches (printed by plan.py): what each answers. No condition. -/
import Derived.Test.YtgklhpocmnjpfaaDoorEnvFnExactSpaceText
namespace Go.Ve.X
open Go.Proofs Go.Ve Go.RowKit
set_option linter.unusedVariables false
set_option maxRecDepth 100000
theorem laws_FnExactSpaceText_eq (aS_Dims : List Int) (aS_Max : List Int) :
    laws_FnExactSpaceText aS_Dims aS_Max = (
      sbind (laws_szSpace aS_Dims aS_Max 1048576) fun r1 =>
      sif (decide (r1 < 0)) (some true) <|
      sbind (laws_toSpace aS_Dims aS_Max) fun r2 =>
      sbind (spec_SpaceText r2.1 r2.2) fun r3 =>
      sbind (laws_toSpace aS_Dims aS_Max) fun r4 =>
      sbind (impl_SpaceText r4.1 r4.2) fun r5 =>
      sif (!seq r5 r3) (some false) <|
      sbind (laws_toSpace aS_Dims aS_Max) fun r6 =>
      sbind (laws_eqSpace r4.1 r4.2 r6.1 r6.2) fun r7 =>
      sif (!r7) (some false) (some true)) := sem_eq (f := 5) (m := 0) rfl (by kernel_rfl)
theorem laws_szSpace_eq (a_Dims : List Int) (a_Max : List Int) (left : Int) :
    laws_szSpace a_Dims a_Max left = (
      sbind (laws_szInt64S a_Dims left) fun r1 =>
      sif (decide (r1 < 0)) (some (-1)) <|
      sbind (laws_szInt64S a_Max r1) fun r2 =>
      sif (decide (r2 < 0)) (some (-1)) (some r2)) := sem_eq (f := 17) (m := 0) rfl (by kernel_rfl)
theorem laws_szInt64S_eq (a : List Int) (left : Int) :
    laws_szInt64S a left = (
      sif (decide (wi64 (left - (a.length : Int)) < 0)) (some (-1)) (some (wi64 (left - (a.length : Int))))) := sem_eq (f := 52) (m := 0) rfl (by kernel_rfl)
theorem laws_toSpace_eq (a_Dims : List Int) (a_Max : List Int) :
    laws_toSpace a_Dims a_Max = (
      sbind (laws_toInt64S a_Dims) fun r1 =>
      sbind (laws_toInt64S a_Max) fun r2 =>
      some (r1, r2)) := sem_eq (f := 19) (m := 0) rfl (by kernel_rfl)
theorem laws_toInt64S_eq (a : List Int) :
    laws_toInt64S a = (
      sif (le3 0 (a.length : Int) (a.length : Int) && room a.length 8) (laws_toInt64S_l3 a 0 (List.replicate a.length (0 : Int))) (none)) := sem_eq (f := 54) (m := 0) rfl (by kernel_rfl)
theorem laws_toInt64S_l3_eq (a : List Int) (i : Int) (out : List Int) :
    laws_toInt64S_l3 a i out = (
      sif (decide (i < (a.length : Int)))
       (sbind (idx a i) fun x1 =>
        sif (lt3 0 i (out.length : Int)) (laws_toInt64S_l3 a (wi64 (i + 1)) (out.set i.toNat x1)) (none)) (some out)) := seml_eq (f := 54) (m := 0) (l := 3) (by kernel_rfl)
theorem spec_SpaceText_eq (s_Dims : List Int) (s_Max : List Int) :
    spec_SpaceText s_Dims s_Max = (
      sbind (spec_l05Space s_Dims s_Max) fun r1 =>
      sif (!r1) (some (bs [])) (spec_SpaceText_l5 (bs []) 0 s_Dims s_Max)) := sem_eq (f := 18) (m := 0) rfl (by kernel_rfl)
theorem spec_SpaceText_l5_eq (out : ByteArray) (i : Int) (s_Dims : List Int) (s_Max : List Int) :
    spec_SpaceText_l5 out i s_Dims s_Max = (
      sif (decide (i < (s_Dims.length : Int)))
       (sif (decide (i > 0))
         (sif (joins out (bs [44]))
           (sbind (idx s_Dims i) fun x1 =>
            sbind (spec_l05Digits x1) fun r2 =>
            sif (joins (out ++ (bs [44])) r2)
             (sbind (idx s_Max i) fun x3 =>
              sbind (idx s_Dims i) fun x4 =>
              sif ((x3 == x4)) (spec_SpaceText_l5 ((out ++ (bs [44])) ++ r2) (wi64 (i + 1)) s_Dims s_Max) <|
              sif ((x3 == (-1)))
               (sif (joins ((out ++ (bs [44])) ++ r2) (bs [47, 42]))
                 (spec_SpaceText_l5 (((out ++ (bs [44])) ++ r2) ++ (bs [47, 42])) (wi64 (i + 1)) s_Dims s_Max) (none)) <|
              sbind (idx s_Max i) fun x5 =>
              sbind (spec_l05Digits x5) fun r6 =>
              sif (joins (bs [47]) r6)
               (sif (joins ((out ++ (bs [44])) ++ r2) ((bs [47]) ++ r6))
                 (spec_SpaceText_l5 (((out ++ (bs [44])) ++ r2) ++ ((bs [47]) ++ r6)) (wi64 (i + 1)) s_Dims s_Max) (none)) (none)) (none)) (none)) <|
        sbind (idx s_Dims i) fun x1 =>
        sbind (spec_l05Digits x1) fun r2 =>
        sif (joins out r2)
         (sbind (idx s_Max i) fun x3 =>
          sbind (idx s_Dims i) fun x4 =>
          sif ((x3 == x4)) (spec_SpaceText_l5 (out ++ r2) (wi64 (i + 1)) s_Dims s_Max) <|
          sif ((x3 == (-1)))
           (sif (joins (out ++ r2) (bs [47, 42])) (spec_SpaceText_l5 ((out ++ r2) ++ (bs [47, 42])) (wi64 (i + 1)) s_Dims s_Max) (none)) <|
          sbind (idx s_Max i) fun x5 =>
          sbind (spec_l05Digits x5) fun r6 =>
          sif (joins (bs [47]) r6)
           (sif (joins (out ++ r2) ((bs [47]) ++ r6)) (spec_SpaceText_l5 ((out ++ r2) ++ ((bs [47]) ++ r6)) (wi64 (i + 1)) s_Dims s_Max) (none)) (none)) (none)) <|
      sif (joins (bs [40]) out) (sif (joins ((bs [40]) ++ out) (bs [41])) (some (((bs [40]) ++ out) ++ (bs [41]))) (none)) (none)) := seml_eq (f := 18) (m := 0) (l := 5) (by kernel_rfl)
theorem spec_l05Space_eq (s_Dims : List Int) (s_Max : List Int) :
    spec_l05Space s_Dims s_Max = (
      sbind (spec_l05Dims s_Dims) fun r1 =>
      sif (!r1) (some false) <|
      sif (((s_Max.length : Int) != (s_Dims.length : Int))) (some false) (spec_l05Space_l4 0 s_Dims s_Max)) := sem_eq (f := 53) (m := 0) rfl (by kernel_rfl)
theorem spec_l05Space_l4_eq (i : Int) (s_Dims : List Int) (s_Max : List Int) :
    spec_l05Space_l4 i s_Dims s_Max = (
      sif (decide (i < (s_Max.length : Int)))
       (sbind (idx s_Max i) fun x1 =>
        sif ((x1 != (-1)))
         (sbind (idx s_Max i) fun x2 =>
          sbind (idx s_Dims i) fun x3 =>
          sbind (spec_l00In x2 x3 40) fun r4 =>
          sif (!r4) (some false) (spec_l05Space_l4 (wi64 (i + 1)) s_Dims s_Max)) (spec_l05Space_l4 (wi64 (i + 1)) s_Dims s_Max)) (some true)) := seml_eq (f := 53) (m := 0) (l := 4) (by kernel_rfl)
theorem spec_l05Dims_eq (dims : List Int) :
    spec_l05Dims dims = (
      sif (decide ((dims.length : Int) > 3)) (some false) (spec_l05Dims_l5 dims 1 0)) := sem_eq (f := 91) (m := 0) rfl (by kernel_rfl)
theorem spec_l05Dims_l5_eq (dims : List Int) (n : Int) (i : Int) :
    spec_l05Dims_l5 dims n i = (
      sif (decide (i < (dims.length : Int)))
       (sbind (idx dims i) fun x1 =>
        sbind (spec_l00In x1 0 40) fun r2 =>
        sif (!r2) (some false) <|
        sbind (idx dims i) fun x3 =>
        spec_l05Dims_l5 dims (wi64 (n * x3)) (wi64 (i + 1))) (some (decide (n ≤ 600)))) := seml_eq (f := 91) (m := 0) (l := 5) (by kernel_rfl)
theorem spec_l00In_eq (n : Int) (low : Int) (high : Int) :
    spec_l00In n low high = (
      sif (decide (n ≥ low)) (some (decide (n ≤ high))) (some false)) := sem_eq (f := 39) (m := 0) rfl (by kernel_rfl)
theorem spec_l05Digits_eq (n : Int) :
    spec_l05Digits n = (
      sif (decide (n < 0))
       (sbind (spec_l05Digits (wi64 (0 - n))) fun r1 =>
        sif (joins (bs [45]) r1) (some ((bs [45]) ++ r1)) (none)) <|
      sif (decide (n < 10)) (some (toB [wu8 (wi64 (48 + n))])) <|
      sbind (spec_l05Digits (wi64 (Int.tdiv n 10))) fun r1 =>
      sif (joins r1 (toB [wu8 (wi64 (48 + (Int.tmod n 10)))])) (some (r1 ++ (toB [wu8 (wi64 (48 + (Int.tmod n 10)))]))) (none)) := sem_eq (f := 47) (m := 0) rfl (by kernel_rfl)
theorem impl_SpaceText_eq (s_Dims : List Int) (s_Max : List Int) :
    impl_SpaceText s_Dims s_Max = (
      sbind (impl_ValidSpace s_Dims s_Max) fun r1 =>
      sif (!r1) (some (bs [])) <|
      sbind (impl_Space_text s_Dims s_Max) fun r2 =>
      some r2) := sem_eq (f := 20) (m := 0) rfl (by kernel_rfl)
theorem impl_ValidSpace_eq (s_Dims : List Int) (s_Max : List Int) :
    impl_ValidSpace s_Dims s_Max = (
      sbind (impl_ValidDims s_Dims) fun r1 =>
      sif (!r1) (some false) <|
      sif (((s_Max.length : Int) != (s_Dims.length : Int))) (some false) <|
      impl_ValidSpace_l4 s_Max (s_Max.length : Int) 0 s_Dims s_Max) := sem_eq (f := 55) (m := 0) rfl (by kernel_rfl)
theorem impl_ValidSpace_l4_eq (t19 : List Int) (t20 : Int) (t21 : Int) (s_Dims : List Int) (s_Max : List Int) :
    impl_ValidSpace_l4 t19 t20 t21 s_Dims s_Max = (
      sif (decide (t21 < t20))
       (sbind (idx t19 t21) fun x1 =>
        sif ((x1 != (-1)))
         (sbind (idx s_Dims t21) fun x2 =>
          sbind (impl_within x1 x2 40) fun r3 =>
          sif (!r3) (some false) <|
          impl_ValidSpace_l4 t19 t20 (wi64 (t21 + 1)) s_Dims s_Max) <|
        impl_ValidSpace_l4 t19 t20 (wi64 (t21 + 1)) s_Dims s_Max) (some true)) := seml_eq (f := 55) (m := 0) (l := 4) (by kernel_rfl)
theorem impl_ValidDims_eq (dims : List Int) :
    impl_ValidDims dims = (
      sif (decide ((dims.length : Int) ≤ 3))
       (sbind (impl_allWithin dims 0 40) fun r1 =>
        sif (r1)
         (sbind (impl_product dims) fun r2 =>
          some (decide (r2 ≤ 600))) (some false)) (some false)) := sem_eq (f := 92) (m := 0) rfl (by kernel_rfl)
theorem impl_allWithin_eq (list : List Int) (low : Int) (high : Int) :
    impl_allWithin list low high = (
      sbind (slices_ContainsFunc_sint64_int64_d_allWithin_1 list low high) fun r1 =>
      some !r1) := sem_eq (f := 97) (m := 0) rfl (by kernel_rfl)
theorem slices_ContainsFunc_sint64_int64_d_allWithin_1_eq (s : List Int) (c0 : Int) (c1 : Int) :
    slices_ContainsFunc_sint64_int64_d_allWithin_1 s c0 c1 = (
      sbind (slices_IndexFunc_sint64_int64_d_allWithin_1 s c0 c1) fun r1 =>
      some (decide (r1 ≥ 0))) := sem_eq (f := 120) (m := 0) rfl (by kernel_rfl)
theorem slices_IndexFunc_sint64_int64_d_allWithin_1_eq (s : List Int) (c0 : Int) (c1 : Int) :
    slices_IndexFunc_sint64_int64_d_allWithin_1 s c0 c1 = (
      slices_IndexFunc_sint64_int64_d_allWithin_1_l2 s (s.length : Int) 0 c0 c1) := sem_eq (f := 138) (m := 0) rfl (by kernel_rfl)
theorem slices_IndexFunc_sint64_int64_d_allWithin_1_l2_eq (s : List Int) (t7 : Int) (t8 : Int) (c0 : Int) (c1 : Int) :
    slices_IndexFunc_sint64_int64_d_allWithin_1_l2 s t7 t8 c0 c1 = (
      sif (decide (t8 < t7))
       (sbind (idx s t8) fun x1 =>
        sbind (impl_allWithin_1 x1 c0 c1) fun r2 =>
        sif (r2) (some t8) <|
        slices_IndexFunc_sint64_int64_d_allWithin_1_l2 s t7 (wi64 (t8 + 1)) c0 c1) (some (-1))) := seml_eq (f := 138) (m := 0) (l := 2) (by kernel_rfl)
theorem impl_allWithin_1_eq (n : Int) (t1 : Int) (t2 : Int) :
    impl_allWithin_1 n t1 t2 = (
      sbind (impl_within n t1 t2) fun r1 =>
      some !r1) := sem_eq (f := 121) (m := 0) rfl (by kernel_rfl)
theorem impl_within_eq (n : Int) (low : Int) (high : Int) :
    impl_within n low high = (
      sif (decide (n ≥ low)) (some (decide (n ≤ high))) (some false)) := sem_eq (f := 42) (m := 0) rfl (by kernel_rfl)
theorem impl_product_eq (list : List Int) :
    impl_product list = (
      impl_product_l3 1 list (list.length : Int) 0) := sem_eq (f := 96) (m := 0) rfl (by kernel_rfl)
theorem impl_product_l3_eq (out : Int) (t6 : List Int) (t7 : Int) (t8 : Int) :
    impl_product_l3 out t6 t7 t8 = (
      sif (decide (t8 < t7))
       (sbind (idx t6 t8) fun x1 =>
        impl_product_l3 (wi64 (out * x1)) t6 t7 (wi64 (t8 + 1))) (some out)) := seml_eq (f := 96) (m := 0) (l := 3) (by kernel_rfl)
theorem impl_Space_text_eq (s_Dims : List Int) (s_Max : List Int) :
    impl_Space_text s_Dims s_Max = (
      impl_Space_text_l3 s_Dims (s_Dims.length : Int) 0 s_Dims s_Max ([] : List ByteArray)) := sem_eq (f := 56) (m := 0) rfl (by kernel_rfl)
theorem impl_Space_text_l3_eq (t8 : List Int) (t9 : Int) (t10 : Int) (s_Dims : List Int) (s_Max : List Int) (list : List ByteArray) :
    impl_Space_text_l3 t8 t9 t10 s_Dims s_Max list = (
      sif (decide (t10 < t9))
       (sbind (idx t8 t10) fun x1 =>
        sbind (impl_decimal x1) fun r2 =>
        sbind (idx s_Max t10) fun x3 =>
        sif ((x3 == (-1)))
         (sif (joins r2 (bs [47, 42]))
           (sif (room (list.length + 1) 16)
             (impl_Space_text_l3 t8 t9 (wi64 (t10 + 1)) s_Dims s_Max (list ++ [r2 ++ (bs [47, 42])])) (none)) (none)) <|
        sif ((x3 == x1))
         (sif (room (list.length + 1) 16) (impl_Space_text_l3 t8 t9 (wi64 (t10 + 1)) s_Dims s_Max (list ++ [r2])) (none)) <|
        sbind (idx s_Max t10) fun x4 =>
        sbind (impl_decimal x4) fun r5 =>
        sif (joins (bs [47]) r5)
         (sif (joins r2 ((bs [47]) ++ r5))
           (sif (room (list.length + 1) 16)
             (impl_Space_text_l3 t8 t9 (wi64 (t10 + 1)) s_Dims s_Max (list ++ [r2 ++ ((bs [47]) ++ r5)])) (none)) (none)) (none)) <|
      sbind (strings_Join list (bs [44])) fun r1 =>
      sif (joins (bs [40]) r1) (sif (joins ((bs [40]) ++ r1) (bs [41])) (some (((bs [40]) ++ r1) ++ (bs [41]))) (none)) (none)) := seml_eq (f := 56) (m := 0) (l := 3) (by kernel_rfl)
theorem impl_decimal_eq (n : Int) :
    impl_decimal n = (
      sbind (strconv_FormatInt n 10) fun r1 =>
      some r1) := sem_eq (f := 44) (m := 0) rfl (by kernel_rfl)
theorem strconv_FormatInt_eq (x0 : Int) (x1 : Int) : strconv_FormatInt x0 x1 = fmtInt x0 x1 := ext_eq (E := E) (f := 84) (m := 0) (g := fun (d : Int × Int) => (fmtInt (d.1) (d.2) : Option (ByteArray))) (by kernel_rfl) (x0, x1)
theorem strings_Join_eq (x0 : List ByteArray) (x1 : ByteArray) : strings_Join x0 x1 = joinI x0 x1 := ext_eq (E := E) (f := 90) (m := 0) (g := fun (d : List ByteArray × ByteArray) => (joinI (d.1) (d.2) : Option (ByteArray))) (by kernel_rfl) (x0, x1)
theorem laws_eqSpace_eq (a_Dims : List Int) (a_Max : List Int) (b_Dims : List Int) (b_Max : List Int) :
    laws_eqSpace a_Dims a_Max b_Dims b_Max = (
      sbind (laws_eqInt64S a_Dims b_Dims) fun r1 =>
      sif (!r1) (some false) <|
      sbind (laws_eqInt64S a_Max b_Max) fun r2 =>
      sif (!r2) (some false) (some true)) := sem_eq (f := 21) (m := 0) rfl (by kernel_rfl)
theorem laws_eqInt64S_eq (a : List Int) (b : List Int) :
    laws_eqInt64S a b = (
      sif (((a.length : Int) != (b.length : Int))) (some false) (laws_eqInt64S_l4 a b 0)) := sem_eq (f := 57) (m := 0) rfl (by kernel_rfl)
theorem laws_eqInt64S_l4_eq (a : List Int) (b : List Int) (i : Int) :
    laws_eqInt64S_l4 a b i = (
      sif (decide (i < (a.length : Int)))
       (sbind (idx a i) fun x1 =>
        sbind (idx b i) fun x2 =>
        sif ((x1 != x2)) (some false) (laws_eqInt64S_l4 a b (wi64 (i + 1)))) (some true)) := seml_eq (f := 57) (m := 0) (l := 4) (by kernel_rfl)
end Go.Ve.X
