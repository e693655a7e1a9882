/- The equations of the functions that 'FnHex' reaches (printed by plan.py): what each answers. No condition. -/
import Derived.Test.YtlcbbiiohhplfaaEnvFnHex
namespace Go.Ve.X
open Go.Proofs Go.Ve Go.RowKit
set_option linter.unusedVariables false
set_option maxRecDepth 100000
theorem laws_FnHex_eq (code : List Int) :
    laws_FnHex code = (
      sbind (laws_b10Long code) fun r1 =>
      sif (r1) (some true) <|
      sbind (spec_DrawHexText code) fun r2 =>
      sbind (impl_HexText r2) fun r3 =>
      sbind (impl_ReadHex r3) fun r4 =>
      sbind (spec_DrawReadHex code) fun r5 =>
      sbind (impl_ReadHex r5) fun r6 =>
      sif (r4.2)
       (sif (seq r4.1 r2)
         (sbind (impl_ReverseBytes r2) fun r7 =>
          sbind (impl_ReverseBytes r7) fun r8 =>
          sif (seq r8 r2)
           (sif (!r6.2) (some true) <|
            sbind (impl_HexText r6.1) fun r9 =>
            some (seq r9 r5)) (some false)) (some false)) (some false)) := sem_eq (f := 4) (m := 0) rfl (by kernel_rfl)
theorem laws_b10Long_eq (code : List Int) :
    laws_b10Long code = (
      some (decide ((code.length : Int) > 1048576))) := sem_eq (f := 14) (m := 0) rfl (by kernel_rfl)
theorem spec_DrawHexText_eq (code : List Int) :
    spec_DrawHexText code = (
      sbind (spec_l00From code) fun r1 =>
      sbind (spec_l00Src_word_wd 20 r1.1 r1.2.1 r1.2.2) fun r2 =>
      some r2.1) := sem_eq (f := 15) (m := 0) rfl (by kernel_rfl)
theorem spec_l00From_eq (code : List Int) :
    spec_l00From code = (
      some (code, 0, 0)) := sem_eq (f := 48) (m := 0) rfl (by kernel_rfl)
theorem spec_l00Src_word_wd_eq (n : Int) (s_code : List Int) (s_at : Int) (s_seed : Int) :
    spec_l00Src_word_wd n s_code s_at s_seed = (
      sbind (spec_l00Src_pick_wd n s_code s_at s_seed) fun r1 =>
      spec_l00Src_word_wd_l3 r1.1 r1.2.1 r1.2.2.1 r1.2.2.2 ([] : List Int)) := sem_eq (f := 49) (m := 0) rfl (by kernel_rfl)
theorem spec_l00Src_word_wd_l3_eq (k : Int) (s_code : List Int) (s_at : Int) (s_seed : Int) (out : List Int) :
    spec_l00Src_word_wd_l3 k s_code s_at s_seed out = (
      sif (decide (k > 0))
       (sbind (spec_l00Src_next_wd s_code s_at s_seed) fun r1 =>
        sif (room (out.length + 1) 1) (spec_l00Src_word_wd_l3 (wi64 (k - 1)) r1.2.1 r1.2.2.1 r1.2.2.2 (out ++ [wu8 r1.1])) (none)) (some (toB out, s_code, s_at, s_seed))) := seml_eq (f := 49) (m := 0) (l := 3) (by kernel_rfl)
theorem spec_l00Src_pick_wd_eq (n : Int) (s_code : List Int) (s_at : Int) (s_seed : Int) :
    spec_l00Src_pick_wd n s_code s_at s_seed = (
      sif (decide (n ≤ 1)) (some (0, s_code, s_at, s_seed)) <|
      sbind (spec_l00Src_next_wd s_code s_at s_seed) fun r1 =>
      sif (decide (n > 200))
       (sbind (spec_l00Src_next_wd r1.2.1 r1.2.2.1 r1.2.2.2) fun r2 =>
        sif (decide (n = 0)) (none) <|
        some (Int.tmod (wi64 ((wi64 (r1.1 * 256)) + r2.1)) n, r2.2.1, r2.2.2.1, r2.2.2.2)) <|
      sif (decide (n = 0)) (none) (some (Int.tmod r1.1 n, r1.2.1, r1.2.2.1, r1.2.2.2))) := sem_eq (f := 56) (m := 0) rfl (by kernel_rfl)
theorem spec_l00Src_next_wd_eq (s_code : List Int) (s_at : Int) (s_seed : Int) :
    spec_l00Src_next_wd s_code s_at s_seed = (
      sif (decide (s_at < (s_code.length : Int)))
       (sbind (idx s_code s_at) fun x1 =>
        sif (decide (wi64 (s_at + 1) ≤ (s_code.length : Int)))
         (some (wi64 x1, s_code, wi64 (s_at + 1), wu64 ((wu64 ((wu64 (s_seed * 6364136223846793005)) + (wu64 (wi64 x1)))) + 1442695040888963407))) <|
        some (wi64 (bits .and .u64 (Int.fdiv (wu64 ((wu64 ((wu64 (s_seed * 6364136223846793005)) + (wu64 (wi64 x1)))) + 1442695040888963407)) (2 ^ 40)) 255), s_code, wi64 (s_at + 1), wu64 ((wu64 ((wu64 (s_seed * 6364136223846793005)) + (wu64 (wi64 x1)))) + 1442695040888963407))) <|
      sif (decide (wi64 (s_at + 1) ≤ (s_code.length : Int)))
       (some (0, s_code, wi64 (s_at + 1), wu64 ((wu64 ((wu64 (s_seed * 6364136223846793005)) + 0)) + 1442695040888963407))) <|
      some (wi64 (bits .and .u64 (Int.fdiv (wu64 ((wu64 ((wu64 (s_seed * 6364136223846793005)) + 0)) + 1442695040888963407)) (2 ^ 40)) 255), s_code, wi64 (s_at + 1), wu64 ((wu64 ((wu64 (s_seed * 6364136223846793005)) + 0)) + 1442695040888963407))) := sem_eq (f := 87) (m := 0) rfl (by kernel_rfl)
theorem impl_HexText_eq (s : ByteArray) :
    impl_HexText s = (
      impl_HexText_l3 s (s.size : Int) 0 ([] : List Int)) := sem_eq (f := 17) (m := 0) rfl (by kernel_rfl)
theorem impl_HexText_l3_eq (s : ByteArray) (t6 : Int) (t7 : Int) (out : List Int) :
    impl_HexText_l3 s t6 t7 out = (
      sif (decide (t7 < t6))
       (sbind (bidx s t7) fun b1 =>
        sbind (bidx (bs [48, 49, 50, 51, 52, 53, 54, 55, 56, 57, 97, 98, 99, 100, 101, 102]) (wu8 (Int.tdiv b1 16))) fun b2 =>
        sbind (bidx s t7) fun b3 =>
        sbind (bidx (bs [48, 49, 50, 51, 52, 53, 54, 55, 56, 57, 97, 98, 99, 100, 101, 102]) (Int.tmod b3 16)) fun b4 =>
        sif (room (out.length + 2) 1) (impl_HexText_l3 s t6 (wi64 (t7 + 1)) (out ++ [b2, b4])) (none)) (some (toB out))) := seml_eq (f := 17) (m := 0) (l := 3) (by kernel_rfl)
theorem impl_ReadHex_eq (s : ByteArray) :
    impl_ReadHex s = (
      sif (((Int.tmod (s.size : Int) 2) == 1)) (some (bs [], false)) (impl_ReadHex_l5 s 0 ([] : List Int))) := sem_eq (f := 16) (m := 0) rfl (by kernel_rfl)
theorem impl_ReadHex_l5_eq (s : ByteArray) (i : Int) (out : List Int) :
    impl_ReadHex_l5 s i out = (
      sif (decide (i < (s.size : Int)))
       (sbind (bidx s i) fun b1 =>
        sbind (strings_IndexByte (bs [48, 49, 50, 51, 52, 53, 54, 55, 56, 57, 97, 98, 99, 100, 101, 102]) b1) fun r2 =>
        sbind (bidx s (wi64 (i + 1))) fun b3 =>
        sbind (strings_IndexByte (bs [48, 49, 50, 51, 52, 53, 54, 55, 56, 57, 97, 98, 99, 100, 101, 102]) b3) fun r4 =>
        sif (decide (r2 < 0)) (some (bs [], false)) <|
        sif (decide (r4 < 0)) (some (bs [], false)) <|
        sif (room (out.length + 1) 1) (impl_ReadHex_l5 s (wi64 (i + 2)) (out ++ [wu8 (wi64 ((wi64 (16 * r2)) + r4))])) (none)) (some (toB out, true))) := seml_eq (f := 16) (m := 0) (l := 5) (by kernel_rfl)
theorem strings_IndexByte_eq (x0 : ByteArray) (x1 : Int) : strings_IndexByte x0 x1 = some (indexByteI x0 x1) := ext_eq (E := E) (f := 50) (m := 0) (g := fun (d : ByteArray × Int) => (some (indexByteI (d.1) (d.2)) : Option (Int))) (by kernel_rfl) (x0, x1)
theorem spec_DrawReadHex_eq (code : List Int) :
    spec_DrawReadHex code = (
      sbind (spec_l00From code) fun r1 =>
      sbind (spec_l00Src_word_wd 8 r1.1 r1.2.1 r1.2.2) fun r2 =>
      sbind (spec_l01Hex r2.1) fun r3 =>
      sbind (spec_l00Src_one_wd 2 r2.2.1 r2.2.2.1 r2.2.2.2) fun r4 =>
      sif (r4.1) (some r3) <|
      sbind (spec_l00Src_text_wdd [bs [97], bs [48, 103], bs [65, 48], bs [32], bs [102, 102], bs []] r4.2.1 r4.2.2.1 r4.2.2.2) fun r5 =>
      sif (joins r3 r5.1) (some (r3 ++ r5.1)) (none)) := sem_eq (f := 18) (m := 0) rfl (by kernel_rfl)
theorem spec_l01Hex_eq (s : ByteArray) :
    spec_l01Hex s = (
      spec_l01Hex_l4 s (bs [48, 49, 50, 51, 52, 53, 54, 55, 56, 57, 97, 98, 99, 100, 101, 102]) 0 ([] : List Int)) := sem_eq (f := 51) (m := 0) rfl (by kernel_rfl)
theorem spec_l01Hex_l4_eq (s : ByteArray) (digits : ByteArray) (i : Int) (out : List Int) :
    spec_l01Hex_l4 s digits i out = (
      sif (decide (i < (s.size : Int)))
       (sbind (bidx s i) fun b1 =>
        sbind (bidx digits (Int.fdiv b1 (2 ^ 4))) fun b2 =>
        sbind (bidx s i) fun b3 =>
        sbind (bidx digits (bits .and .u8 b3 15)) fun b4 =>
        sif (room (out.length + 2) 1) (spec_l01Hex_l4 s digits (wi64 (i + 1)) (out ++ [b2, b4])) (none)) (some (toB out))) := seml_eq (f := 51) (m := 0) (l := 4) (by kernel_rfl)
theorem spec_l00Src_one_wd_eq (n : Int) (s_code : List Int) (s_at : Int) (s_seed : Int) :
    spec_l00Src_one_wd n s_code s_at s_seed = (
      sbind (spec_l00Src_pick_wd n s_code s_at s_seed) fun r1 =>
      some ((r1.1 == 0), r1.2.1, r1.2.2.1, r1.2.2.2)) := sem_eq (f := 52) (m := 0) rfl (by kernel_rfl)
theorem spec_l00Src_text_wdd_eq (list : List ByteArray) (s_code : List Int) (s_at : Int) (s_seed : Int) :
    spec_l00Src_text_wdd list s_code s_at s_seed = (
      sbind (spec_l00Src_pick_wd (list.length : Int) s_code s_at s_seed) fun r1 =>
      sbind (idx list r1.1) fun x2 =>
      some (x2, r1.2.1, r1.2.2.1, r1.2.2.2)) := sem_eq (f := 53) (m := 0) rfl (by kernel_rfl)
theorem impl_ReverseBytes_eq (s : ByteArray) :
    impl_ReverseBytes s = (
      sbind (slices_Reverse_sbyte_byte_v (ofB s)) fun r1 =>
      some (toB r1)) := sem_eq (f := 19) (m := 0) rfl (by kernel_rfl)
theorem slices_Reverse_sbyte_byte_v_eq (s : List Int) :
    slices_Reverse_sbyte_byte_v s = (
      slices_Reverse_sbyte_byte_v_l1 0 (wi64 ((s.length : Int) - 1)) s) := sem_eq (f := 54) (m := 0) rfl (by kernel_rfl)
theorem slices_Reverse_sbyte_byte_v_l1_eq (i : Int) (j : Int) (s : List Int) :
    slices_Reverse_sbyte_byte_v_l1 i j s = (
      sif (decide (i < j))
       (sif (lt3 0 j (s.length : Int))
         (sbind (s[j.toNat]?) fun x1 =>
          sif (lt3 0 i (s.length : Int))
           (sbind (s[i.toNat]?) fun x2 =>
            sif (lt3 0 i (s.length : Int))
             (sif (lt3 0 j ((s.set i.toNat x1).length : Int))
               (slices_Reverse_sbyte_byte_v_l1 (wi64 (i + 1)) (wi64 (j - 1)) ((s.set i.toNat x1).set j.toNat x2)) (none)) (none)) (none)) (none)) (some s)) := seml_eq (f := 54) (m := 0) (l := 1) (by kernel_rfl)
end Go.Ve.X
