/- The equations of the functions that 'FnExactNumbersText' reaches (printed by plan.py): what each answers. No condition. -/
import Derived.Test.YtgklhpocmnjpfaaDoorEnvFnExactNumbersText
namespace Go.Ve.X
open Go.Proofs Go.Ve Go.RowKit
set_option linter.unusedVariables false
set_option maxRecDepth 100000
theorem laws_FnExactNumbersText_eq (aN_Dims : List Int) (aN_Nums : List Int) :
    laws_FnExactNumbersText aN_Dims aN_Nums = (
      sbind (laws_szNumbers aN_Dims aN_Nums 1048576) fun r1 =>
      sif (decide (r1 < 0)) (some true) <|
      sbind (laws_toNumbers aN_Dims aN_Nums) fun r2 =>
      sbind (spec_NumbersText r2.1 r2.2) fun r3 =>
      sbind (laws_toNumbers aN_Dims aN_Nums) fun r4 =>
      sbind (impl_NumbersText r4.1 r4.2) fun r5 =>
      sif (!seq r5 r3) (some false) <|
      sbind (laws_toNumbers aN_Dims aN_Nums) fun r6 =>
      sbind (laws_eqNumbers r4.1 r4.2 r6.1 r6.2) fun r7 =>
      sif (!r7) (some false) (some true)) := sem_eq (f := 6) (m := 0) rfl (by kernel_rfl)
theorem laws_szNumbers_eq (a_Dims : List Int) (a_Nums : List Int) (left : Int) :
    laws_szNumbers a_Dims a_Nums left = (
      sbind (laws_szInt64S a_Dims left) fun r1 =>
      sif (decide (r1 < 0)) (some (-1)) <|
      sbind (laws_szInt64S a_Nums r1) fun r2 =>
      sif (decide (r2 < 0)) (some (-1)) (some r2)) := sem_eq (f := 22) (m := 0) rfl (by kernel_rfl)
theorem laws_szInt64S_eq (a : List Int) (left : Int) :
    laws_szInt64S a left = (
      sif (decide (wi64 (left - (a.length : Int)) < 0)) (some (-1)) (some (wi64 (left - (a.length : Int))))) := sem_eq (f := 52) (m := 0) rfl (by kernel_rfl)
theorem laws_toNumbers_eq (a_Dims : List Int) (a_Nums : List Int) :
    laws_toNumbers a_Dims a_Nums = (
      sbind (laws_toInt64S a_Dims) fun r1 =>
      sbind (laws_toInt64S a_Nums) fun r2 =>
      some (r1, r2)) := sem_eq (f := 24) (m := 0) rfl (by kernel_rfl)
theorem laws_toInt64S_eq (a : List Int) :
    laws_toInt64S a = (
      sif (le3 0 (a.length : Int) (a.length : Int) && room a.length 8) (laws_toInt64S_l3 a 0 (List.replicate a.length (0 : Int))) (none)) := sem_eq (f := 54) (m := 0) rfl (by kernel_rfl)
theorem laws_toInt64S_l3_eq (a : List Int) (i : Int) (out : List Int) :
    laws_toInt64S_l3 a i out = (
      sif (decide (i < (a.length : Int)))
       (sbind (idx a i) fun x1 =>
        sif (lt3 0 i (out.length : Int)) (laws_toInt64S_l3 a (wi64 (i + 1)) (out.set i.toNat x1)) (none)) (some out)) := seml_eq (f := 54) (m := 0) (l := 3) (by kernel_rfl)
theorem spec_NumbersText_eq (n_Dims : List Int) (n_Nums : List Int) :
    spec_NumbersText n_Dims n_Nums = (
      sbind (spec_l25Ok n_Dims n_Nums) fun r1 =>
      sif (!r1) (some (bs [])) <|
      sbind (spec_l32Text n_Dims n_Nums) fun r2 =>
      some r2) := sem_eq (f := 23) (m := 0) rfl (by kernel_rfl)
theorem spec_l25Ok_eq (n_Dims : List Int) (n_Max : List Int) :
    spec_l25Ok n_Dims n_Max = (
      sbind (spec_l05Dims n_Dims) fun r1 =>
      sif (!r1) (some false) <|
      sbind (spec_l05Count n_Dims) fun r2 =>
      sif (((n_Max.length : Int) != r2)) (some false) (spec_l25Ok_l4 0 n_Dims n_Max)) := sem_eq (f := 58) (m := 0) rfl (by kernel_rfl)
theorem spec_l25Ok_l4_eq (i : Int) (n_Dims : List Int) (n_Max : List Int) :
    spec_l25Ok_l4 i n_Dims n_Max = (
      sif (decide (i < (n_Max.length : Int)))
       (sbind (idx n_Max i) fun x1 =>
        sbind (spec_l25Fits x1) fun r2 =>
        sif (!r2) (some false) (spec_l25Ok_l4 (wi64 (i + 1)) n_Dims n_Max)) (some true)) := seml_eq (f := 58) (m := 0) (l := 4) (by kernel_rfl)
theorem spec_l05Dims_eq (dims : List Int) :
    spec_l05Dims dims = (
      sif (decide ((dims.length : Int) > 3)) (some false) (spec_l05Dims_l5 dims 1 0)) := sem_eq (f := 91) (m := 0) rfl (by kernel_rfl)
theorem spec_l05Dims_l5_eq (dims : List Int) (n : Int) (i : Int) :
    spec_l05Dims_l5 dims n i = (
      sif (decide (i < (dims.length : Int)))
       (sbind (idx dims i) fun x1 =>
        sbind (spec_l00In x1 0 40) fun r2 =>
        sif (!r2) (some false) <|
        sbind (idx dims i) fun x3 =>
        spec_l05Dims_l5 dims (wi64 (n * x3)) (wi64 (i + 1))) (some (decide (n ≤ 600)))) := seml_eq (f := 91) (m := 0) (l := 5) (by kernel_rfl)
theorem spec_l00In_eq (n : Int) (low : Int) (high : Int) :
    spec_l00In n low high = (
      sif (decide (n ≥ low)) (some (decide (n ≤ high))) (some false)) := sem_eq (f := 39) (m := 0) rfl (by kernel_rfl)
theorem spec_l05Count_eq (dims : List Int) :
    spec_l05Count dims = (
      spec_l05Count_l3 dims 1 0) := sem_eq (f := 93) (m := 0) rfl (by kernel_rfl)
theorem spec_l05Count_l3_eq (dims : List Int) (n : Int) (i : Int) :
    spec_l05Count_l3 dims n i = (
      sif (decide (i < (dims.length : Int)))
       (sbind (idx dims i) fun x1 =>
        spec_l05Count_l3 dims (wi64 (n * x1)) (wi64 (i + 1))) (some n)) := seml_eq (f := 93) (m := 0) (l := 3) (by kernel_rfl)
theorem spec_l25Fits_eq (n : Int) :
    spec_l25Fits n = (
      sbind (spec_l00In n (-1000000000000) 1000000000000) fun r1 =>
      some r1) := sem_eq (f := 94) (m := 0) rfl (by kernel_rfl)
theorem spec_l32Text_eq (n_Dims : List Int) (n_Max : List Int) :
    spec_l32Text n_Dims n_Max = (
      sbind (spec_l05List n_Dims) fun r1 =>
      sif (joins (bs [40]) r1)
       (sif (joins ((bs [40]) ++ r1) (bs [41])) (spec_l32Text_l3 (((bs [40]) ++ r1) ++ (bs [41])) 0 n_Dims n_Max) (none)) (none)) := sem_eq (f := 59) (m := 0) rfl (by kernel_rfl)
theorem spec_l32Text_l3_eq (out : ByteArray) (i : Int) (n_Dims : List Int) (n_Max : List Int) :
    spec_l32Text_l3 out i n_Dims n_Max = (
      sif (decide (i < (n_Max.length : Int)))
       (sbind (idx n_Max i) fun x1 =>
        sbind (spec_l05Digits x1) fun r2 =>
        sif (joins (bs [32]) r2)
         (sif (joins out ((bs [32]) ++ r2)) (spec_l32Text_l3 (out ++ ((bs [32]) ++ r2)) (wi64 (i + 1)) n_Dims n_Max) (none)) (none)) (some out)) := seml_eq (f := 59) (m := 0) (l := 3) (by kernel_rfl)
theorem spec_l05List_eq (list : List Int) :
    spec_l05List list = (
      spec_l05List_l3 list (bs []) 0) := sem_eq (f := 95) (m := 0) rfl (by kernel_rfl)
theorem spec_l05List_l3_eq (list : List Int) (out : ByteArray) (i : Int) :
    spec_l05List_l3 list out i = (
      sif (decide (i < (list.length : Int)))
       (sif (decide (i > 0))
         (sif (joins out (bs [44]))
           (sbind (idx list i) fun x1 =>
            sbind (spec_l05Digits x1) fun r2 =>
            sif (joins (out ++ (bs [44])) r2) (spec_l05List_l3 list ((out ++ (bs [44])) ++ r2) (wi64 (i + 1))) (none)) (none)) <|
        sbind (idx list i) fun x1 =>
        sbind (spec_l05Digits x1) fun r2 =>
        sif (joins out r2) (spec_l05List_l3 list (out ++ r2) (wi64 (i + 1))) (none)) (some out)) := seml_eq (f := 95) (m := 0) (l := 3) (by kernel_rfl)
theorem spec_l05Digits_eq (n : Int) :
    spec_l05Digits n = (
      sif (decide (n < 0))
       (sbind (spec_l05Digits (wi64 (0 - n))) fun r1 =>
        sif (joins (bs [45]) r1) (some ((bs [45]) ++ r1)) (none)) <|
      sif (decide (n < 10)) (some (toB [wu8 (wi64 (48 + n))])) <|
      sbind (spec_l05Digits (wi64 (Int.tdiv n 10))) fun r1 =>
      sif (joins r1 (toB [wu8 (wi64 (48 + (Int.tmod n 10)))])) (some (r1 ++ (toB [wu8 (wi64 (48 + (Int.tmod n 10)))]))) (none)) := sem_eq (f := 47) (m := 0) rfl (by kernel_rfl)
theorem impl_NumbersText_eq (n_Dims : List Int) (n_Nums : List Int) :
    impl_NumbersText n_Dims n_Nums = (
      sbind (impl_ValidNumbers n_Dims n_Nums) fun r1 =>
      sif (!r1) (some (bs [])) <|
      sbind (impl_Numbers_text n_Dims n_Nums) fun r2 =>
      some r2) := sem_eq (f := 25) (m := 0) rfl (by kernel_rfl)
theorem impl_ValidNumbers_eq (n_Dims : List Int) (n_Nums : List Int) :
    impl_ValidNumbers n_Dims n_Nums = (
      sbind (impl_ValidDims n_Dims) fun r1 =>
      sif (r1)
       (sbind (impl_product n_Dims) fun r2 =>
        sif (((n_Nums.length : Int) == r2))
         (sbind (impl_allWithin n_Nums (-1000000000000) 1000000000000) fun r3 =>
          some r3) (some false)) (some false)) := sem_eq (f := 60) (m := 0) rfl (by kernel_rfl)
theorem impl_ValidDims_eq (dims : List Int) :
    impl_ValidDims dims = (
      sif (decide ((dims.length : Int) ≤ 3))
       (sbind (impl_allWithin dims 0 40) fun r1 =>
        sif (r1)
         (sbind (impl_product dims) fun r2 =>
          some (decide (r2 ≤ 600))) (some false)) (some false)) := sem_eq (f := 92) (m := 0) rfl (by kernel_rfl)
theorem impl_allWithin_eq (list : List Int) (low : Int) (high : Int) :
    impl_allWithin list low high = (
      sbind (slices_ContainsFunc_sint64_int64_d_allWithin_1 list low high) fun r1 =>
      some !r1) := sem_eq (f := 97) (m := 0) rfl (by kernel_rfl)
theorem slices_ContainsFunc_sint64_int64_d_allWithin_1_eq (s : List Int) (c0 : Int) (c1 : Int) :
    slices_ContainsFunc_sint64_int64_d_allWithin_1 s c0 c1 = (
      sbind (slices_IndexFunc_sint64_int64_d_allWithin_1 s c0 c1) fun r1 =>
      some (decide (r1 ≥ 0))) := sem_eq (f := 120) (m := 0) rfl (by kernel_rfl)
theorem slices_IndexFunc_sint64_int64_d_allWithin_1_eq (s : List Int) (c0 : Int) (c1 : Int) :
    slices_IndexFunc_sint64_int64_d_allWithin_1 s c0 c1 = (
      slices_IndexFunc_sint64_int64_d_allWithin_1_l2 s (s.length : Int) 0 c0 c1) := sem_eq (f := 138) (m := 0) rfl (by kernel_rfl)
theorem slices_IndexFunc_sint64_int64_d_allWithin_1_l2_eq (s : List Int) (t7 : Int) (t8 : Int) (c0 : Int) (c1 : Int) :
    slices_IndexFunc_sint64_int64_d_allWithin_1_l2 s t7 t8 c0 c1 = (
      sif (decide (t8 < t7))
       (sbind (idx s t8) fun x1 =>
        sbind (impl_allWithin_1 x1 c0 c1) fun r2 =>
        sif (r2) (some t8) <|
        slices_IndexFunc_sint64_int64_d_allWithin_1_l2 s t7 (wi64 (t8 + 1)) c0 c1) (some (-1))) := seml_eq (f := 138) (m := 0) (l := 2) (by kernel_rfl)
theorem impl_allWithin_1_eq (n : Int) (t1 : Int) (t2 : Int) :
    impl_allWithin_1 n t1 t2 = (
      sbind (impl_within n t1 t2) fun r1 =>
      some !r1) := sem_eq (f := 121) (m := 0) rfl (by kernel_rfl)
theorem impl_within_eq (n : Int) (low : Int) (high : Int) :
    impl_within n low high = (
      sif (decide (n ≥ low)) (some (decide (n ≤ high))) (some false)) := sem_eq (f := 42) (m := 0) rfl (by kernel_rfl)
theorem impl_product_eq (list : List Int) :
    impl_product list = (
      impl_product_l3 1 list (list.length : Int) 0) := sem_eq (f := 96) (m := 0) rfl (by kernel_rfl)
theorem impl_product_l3_eq (out : Int) (t6 : List Int) (t7 : Int) (t8 : Int) :
    impl_product_l3 out t6 t7 t8 = (
      sif (decide (t8 < t7))
       (sbind (idx t6 t8) fun x1 =>
        impl_product_l3 (wi64 (out * x1)) t6 t7 (wi64 (t8 + 1))) (some out)) := seml_eq (f := 96) (m := 0) (l := 3) (by kernel_rfl)
theorem impl_Numbers_text_eq (n_Dims : List Int) (n_Nums : List Int) :
    impl_Numbers_text n_Dims n_Nums = (
      sbind (impl_listText n_Dims) fun r1 =>
      sif (joins (bs [40]) r1)
       (sif (joins ((bs [40]) ++ r1) (bs [41])) (impl_Numbers_text_l3 n_Nums (n_Nums.length : Int) 0 [((bs [40]) ++ r1) ++ (bs [41])]) (none)) (none)) := sem_eq (f := 61) (m := 0) rfl (by kernel_rfl)
theorem impl_Numbers_text_l3_eq (t13 : List Int) (t14 : Int) (t15 : Int) (words : List ByteArray) :
    impl_Numbers_text_l3 t13 t14 t15 words = (
      sif (decide (t15 < t14))
       (sbind (idx t13 t15) fun x1 =>
        sbind (impl_decimal x1) fun r2 =>
        sif (room (words.length + 1) 16) (impl_Numbers_text_l3 t13 t14 (wi64 (t15 + 1)) (words ++ [r2])) (none)) <|
      sbind (strings_Join words (bs [32])) fun r1 =>
      some r1) := seml_eq (f := 61) (m := 0) (l := 3) (by kernel_rfl)
theorem impl_listText_eq (list : List Int) :
    impl_listText list = (
      impl_listText_l3 list (list.length : Int) 0 ([] : List ByteArray)) := sem_eq (f := 98) (m := 0) rfl (by kernel_rfl)
theorem impl_listText_l3_eq (t6 : List Int) (t7 : Int) (t8 : Int) (words : List ByteArray) :
    impl_listText_l3 t6 t7 t8 words = (
      sif (decide (t8 < t7))
       (sbind (idx t6 t8) fun x1 =>
        sbind (impl_decimal x1) fun r2 =>
        sif (room (words.length + 1) 16) (impl_listText_l3 t6 t7 (wi64 (t8 + 1)) (words ++ [r2])) (none)) <|
      sbind (strings_Join words (bs [44])) fun r1 =>
      some r1) := seml_eq (f := 98) (m := 0) (l := 3) (by kernel_rfl)
theorem impl_decimal_eq (n : Int) :
    impl_decimal n = (
      sbind (strconv_FormatInt n 10) fun r1 =>
      some r1) := sem_eq (f := 44) (m := 0) rfl (by kernel_rfl)
theorem strconv_FormatInt_eq (x0 : Int) (x1 : Int) : strconv_FormatInt x0 x1 = fmtInt x0 x1 := ext_eq (E := E) (f := 84) (m := 0) (g := fun (d : Int × Int) => (fmtInt (d.1) (d.2) : Option (ByteArray))) (by kernel_rfl) (x0, x1)
theorem strings_Join_eq (x0 : List ByteArray) (x1 : ByteArray) : strings_Join x0 x1 = joinI x0 x1 := ext_eq (E := E) (f := 90) (m := 0) (g := fun (d : List ByteArray × ByteArray) => (joinI (d.1) (d.2) : Option (ByteArray))) (by kernel_rfl) (x0, x1)
theorem laws_eqNumbers_eq (a_Dims : List Int) (a_Nums : List Int) (b_Dims : List Int) (b_Nums : List Int) :
    laws_eqNumbers a_Dims a_Nums b_Dims b_Nums = (
      sbind (laws_eqInt64S a_Dims b_Dims) fun r1 =>
      sif (!r1) (some false) <|
      sbind (laws_eqInt64S a_Nums b_Nums) fun r2 =>
      sif (!r2) (some false) (some true)) := sem_eq (f := 26) (m := 0) rfl (by kernel_rfl)
theorem laws_eqInt64S_eq (a : List Int) (b : List Int) :
    laws_eqInt64S a b = (
      sif (((a.length : Int) != (b.length : Int))) (some false) (laws_eqInt64S_l4 a b 0)) := sem_eq (f := 57) (m := 0) rfl (by kernel_rfl)
theorem laws_eqInt64S_l4_eq (a : List Int) (b : List Int) (i : Int) :
    laws_eqInt64S_l4 a b i = (
      sif (decide (i < (a.length : Int)))
       (sbind (idx a i) fun x1 =>
        sbind (idx b i) fun x2 =>
        sif ((x1 != x2)) (some false) (laws_eqInt64S_l4 a b (wi64 (i + 1)))) (some true)) := seml_eq (f := 57) (m := 0) (l := 4) (by kernel_rfl)
end Go.Ve.X
