/- The equations of the functions that 'FnHeaderText' reaches (printed by plan.py): what each answers. No condition. -/
import Derived.Test.YtlcbbiiohhplfabEnvFnHeaderText
namespace Go.Ve.X
open Go.Proofs Go.Ve Go.RowKit
set_option linter.unusedVariables false
set_option maxRecDepth 100000
theorem laws_FnHeaderText_eq (code : List Int) (more : List Int) :
    laws_FnHeaderText code more = (
      sbind (laws_b2Long code) fun r1 =>
      sif (r1) (some true) <|
      sbind (laws_b2Long more) fun r2 =>
      sif (r2) (some true) <|
      sbind (spec_DrawEncodeHeader code) fun r3 =>
      sbind (impl_EncodeHeader r3.1 r3.2.1 r3.2.2) fun r4 =>
      sbind (spec_ValidHeader r3.1 r3.2.1 r3.2.2) fun r5 =>
      sif (r5)
       (sbind (impl_DecodeHeader r4) fun r6 =>
        sif (!r6.2.2.1) (some false) <|
        sbind (spec_SameHeader r6.1 r6.2.1 r6.2.2.2 r3.1 r3.2.1 r3.2.2) fun r7 =>
        sif (!r7) (some false) <|
        sbind (spec_DrawDecodeHeader more) fun r8 =>
        sbind (impl_DecodeHeader r8) fun r9 =>
        sif (!r9.2.2.1) (some true) <|
        sbind (impl_EncodeHeader r9.1 r9.2.1 r9.2.2.2) fun r10 =>
        some (seq r10 r8)) <|
      sif (!seq r4 (bs [])) (some false) <|
      sbind (spec_DrawDecodeHeader more) fun r6 =>
      sbind (impl_DecodeHeader r6) fun r7 =>
      sif (!r7.2.2.1) (some true) <|
      sbind (impl_EncodeHeader r7.1 r7.2.1 r7.2.2.2) fun r8 =>
      some (seq r8 r6)) := sem_eq (f := 7) (m := 0) rfl (by kernel_rfl)
theorem laws_b2Long_eq (code : List Int) :
    laws_b2Long code = (
      some (decide ((code.length : Int) > 1048576))) := sem_eq (f := 26) (m := 0) rfl (by kernel_rfl)
theorem spec_DrawEncodeHeader_eq (code : List Int) :
    spec_DrawEncodeHeader code = (
      sbind (spec_l00From code) fun r1 =>
      sbind (spec_l14DrawHeader_wd 6 r1.1 r1.2.1 r1.2.2) fun r2 =>
      some (r2.1, r2.2.1, r2.2.2.2.2.2)) := sem_eq (f := 27) (m := 0) rfl (by kernel_rfl)
theorem spec_l00From_eq (code : List Int) :
    spec_l00From code = (
      some (code, 0, 0)) := sem_eq (f := 38) (m := 0) rfl (by kernel_rfl)
theorem spec_l14DrawHeader_wd_eq (n : Int) (s_code : List Int) (s_at : Int) (s_seed : Int) :
    spec_l14DrawHeader_wd n s_code s_at s_seed = (
      sbind (spec_l00Src_pick_wd 3 s_code s_at s_seed) fun r1 =>
      sbind (spec_l00Src_pick_wd 4 r1.2.1 r1.2.2.1 r1.2.2.2) fun r2 =>
      sbind (spec_l00Src_pick_wd 5 r2.2.1 r2.2.2.1 r2.2.2.2) fun r3 =>
      spec_l14DrawHeader_wd_l3 n r3.1 r3.2.1 r3.2.2.1 r3.2.2.2 0 0 (wi64 (1 + r1.1)) r2.1 ([] : List (Int × Int × ByteArray)) ([] : List (Int × Int × ByteArray))) := sem_eq (f := 62) (m := 0) rfl (by kernel_rfl)
theorem spec_l14DrawHeader_wd_l3_eq (n : Int) (k : Int) (s_code : List Int) (s_at : Int) (s_seed : Int) (t4_Kind : Int) (t4_Refs : Int) (h_Kind : Int) (h_Refs : Int) (t4_Messages : List (Int × Int × ByteArray)) (h_Messages : List (Int × Int × ByteArray)) :
    spec_l14DrawHeader_wd_l3 n k s_code s_at s_seed t4_Kind t4_Refs h_Kind h_Refs t4_Messages h_Messages = (
      sif (decide (k > 0))
       (sbind (spec_l00Src_pick_wd 9 s_code s_at s_seed) fun r1 =>
        sbind (spec_l00Src_pick_wd 3 r1.2.1 r1.2.2.1 r1.2.2.2) fun r2 =>
        sbind (spec_l00Src_word_wd 12 r2.2.1 r2.2.2.1 r2.2.2.2) fun r3 =>
        sbind (spec_l00Src_one_wd 6 r3.2.1 r3.2.2.1 r3.2.2.2) fun r4 =>
        sif (r4.1)
         (sbind (spec_l00Src_among_wdd ([40, 56, 57, 60, 100, 200] : List Int) r4.2.1 r4.2.2.1 r4.2.2.2) fun r5 =>
          sbind (spec_l03Zeros r5.1) fun r6 =>
          sif (room (h_Messages.length + 1) 32)
           (spec_l14DrawHeader_wd_l3 n (wi64 (k - 1)) r5.2.1 r5.2.2.1 r5.2.2.2 t4_Kind t4_Refs h_Kind h_Refs t4_Messages (h_Messages ++ [(wi64 (1 + r1.1), r2.1, r6)])) (none)) <|
        sif (room (h_Messages.length + 1) 32)
         (spec_l14DrawHeader_wd_l3 n (wi64 (k - 1)) r4.2.1 r4.2.2.1 r4.2.2.2 t4_Kind t4_Refs h_Kind h_Refs t4_Messages (h_Messages ++ [(wi64 (1 + r1.1), r2.1, r3.1)])) (none)) <|
      sbind (spec_l00Src_one_wd n s_code s_at s_seed) fun r1 =>
      sif (!r1.1) (some (h_Kind, h_Refs, r1.2.1, r1.2.2.1, r1.2.2.2, h_Messages)) <|
      sbind (spec_l00Src_pick_wd 6 r1.2.1 r1.2.2.1 r1.2.2.2) fun r2 =>
      sif ((r2.1 == 0))
       (sbind (spec_l00Src_among_wdd ([0, 4, (-1)] : List Int) r2.2.1 r2.2.2.1 r2.2.2.2) fun r3 =>
        some (r3.1, h_Refs, r3.2.1, r3.2.2.1, r3.2.2.2, h_Messages)) <|
      sif ((r2.1 == 1))
       (sbind (spec_l00Src_among_wdd ([(-1), 1000, 1001] : List Int) r2.2.1 r2.2.2.1 r2.2.2.2) fun r3 =>
        some (h_Kind, r3.1, r3.2.1, r3.2.2.1, r3.2.2.2, h_Messages)) <|
      sif ((r2.1 == 2))
       (sbind (spec_l00Src_among_wdd ([0, 10] : List Int) r2.2.1 r2.2.2.1 r2.2.2.2) fun r3 =>
        sif (room (h_Messages.length + 1) 32) (some (h_Kind, h_Refs, r3.2.1, r3.2.2.1, r3.2.2.2, h_Messages ++ [(r3.1, 0, bs [120])])) (none)) <|
      sif ((r2.1 == 3))
       (sbind (spec_l00Src_among_wdd ([(-1), 255, 256] : List Int) r2.2.1 r2.2.2.1 r2.2.2.2) fun r3 =>
        sif (room (h_Messages.length + 1) 32) (some (h_Kind, h_Refs, r3.2.1, r3.2.2.1, r3.2.2.2, h_Messages ++ [(1, r3.1, bs [])])) (none)) <|
      sif ((r2.1 == 4))
       (sbind (spec_l03Zeros 201) fun r3 =>
        sif (room (h_Messages.length + 1) 32) (some (h_Kind, h_Refs, r2.2.1, r2.2.2.1, r2.2.2.2, h_Messages ++ [(1, 0, r3)])) (none)) <|
      spec_l14DrawHeader_wd_l13 r2.2.1 r2.2.2.1 r2.2.2.2 t4_Kind t4_Refs h_Kind h_Refs t4_Messages h_Messages) := seml_eq (f := 62) (m := 0) (l := 3) (by kernel_rfl)
theorem spec_l14DrawHeader_wd_l13_eq (s_code : List Int) (s_at : Int) (s_seed : Int) (t4_Kind : Int) (t4_Refs : Int) (h_Kind : Int) (h_Refs : Int) (t4_Messages : List (Int × Int × ByteArray)) (h_Messages : List (Int × Int × ByteArray)) :
    spec_l14DrawHeader_wd_l13 s_code s_at s_seed t4_Kind t4_Refs h_Kind h_Refs t4_Messages h_Messages = (
      sbind (spec_l00Src_pick_wd 2 s_code s_at s_seed) fun r1 =>
      sif (decide ((h_Messages.length : Int) < wi64 (24 + r1.1)))
       (sif (room (h_Messages.length + 1) 32)
         (spec_l14DrawHeader_wd_l13 r1.2.1 r1.2.2.1 r1.2.2.2 t4_Kind t4_Refs h_Kind h_Refs t4_Messages (h_Messages ++ [(2, 0, bs [])])) (none)) <|
      some (h_Kind, h_Refs, r1.2.1, r1.2.2.1, r1.2.2.2, h_Messages)) := seml_eq (f := 62) (m := 0) (l := 13) (by kernel_rfl)
theorem spec_l00Src_pick_wd_eq (n : Int) (s_code : List Int) (s_at : Int) (s_seed : Int) :
    spec_l00Src_pick_wd n s_code s_at s_seed = (
      sif (decide (n ≤ 1)) (some (0, s_code, s_at, s_seed)) <|
      sbind (spec_l00Src_next_wd s_code s_at s_seed) fun r1 =>
      sif (decide (n > 200))
       (sbind (spec_l00Src_next_wd r1.2.1 r1.2.2.1 r1.2.2.2) fun r2 =>
        sif (decide (n = 0)) (none) <|
        some (Int.tmod (wi64 ((wi64 (r1.1 * 256)) + r2.1)) n, r2.2.1, r2.2.2.1, r2.2.2.2)) <|
      sif (decide (n = 0)) (none) (some (Int.tmod r1.1 n, r1.2.1, r1.2.2.1, r1.2.2.2))) := sem_eq (f := 77) (m := 0) rfl (by kernel_rfl)
theorem spec_l00Src_next_wd_eq (s_code : List Int) (s_at : Int) (s_seed : Int) :
    spec_l00Src_next_wd s_code s_at s_seed = (
      sif (decide (s_at < (s_code.length : Int)))
       (sbind (idx s_code s_at) fun x1 =>
        sif (decide (wi64 (s_at + 1) ≤ (s_code.length : Int)))
         (some (wi64 x1, s_code, wi64 (s_at + 1), wu64 ((wu64 ((wu64 (s_seed * 6364136223846793005)) + (wu64 (wi64 x1)))) + 1442695040888963407))) <|
        some (wi64 (bits .and .u64 (Int.fdiv (wu64 ((wu64 ((wu64 (s_seed * 6364136223846793005)) + (wu64 (wi64 x1)))) + 1442695040888963407)) (2 ^ 40)) 255), s_code, wi64 (s_at + 1), wu64 ((wu64 ((wu64 (s_seed * 6364136223846793005)) + (wu64 (wi64 x1)))) + 1442695040888963407))) <|
      sif (decide (wi64 (s_at + 1) ≤ (s_code.length : Int)))
       (some (0, s_code, wi64 (s_at + 1), wu64 ((wu64 ((wu64 (s_seed * 6364136223846793005)) + 0)) + 1442695040888963407))) <|
      some (wi64 (bits .and .u64 (Int.fdiv (wu64 ((wu64 ((wu64 (s_seed * 6364136223846793005)) + 0)) + 1442695040888963407)) (2 ^ 40)) 255), s_code, wi64 (s_at + 1), wu64 ((wu64 ((wu64 (s_seed * 6364136223846793005)) + 0)) + 1442695040888963407))) := sem_eq (f := 79) (m := 0) rfl (by kernel_rfl)
theorem spec_l00Src_word_wd_eq (n : Int) (s_code : List Int) (s_at : Int) (s_seed : Int) :
    spec_l00Src_word_wd n s_code s_at s_seed = (
      sbind (spec_l00Src_pick_wd n s_code s_at s_seed) fun r1 =>
      spec_l00Src_word_wd_l3 r1.1 r1.2.1 r1.2.2.1 r1.2.2.2 ([] : List Int)) := sem_eq (f := 78) (m := 0) rfl (by kernel_rfl)
theorem spec_l00Src_word_wd_l3_eq (k : Int) (s_code : List Int) (s_at : Int) (s_seed : Int) (out : List Int) :
    spec_l00Src_word_wd_l3 k s_code s_at s_seed out = (
      sif (decide (k > 0))
       (sbind (spec_l00Src_next_wd s_code s_at s_seed) fun r1 =>
        sif (room (out.length + 1) 1) (spec_l00Src_word_wd_l3 (wi64 (k - 1)) r1.2.1 r1.2.2.1 r1.2.2.2 (out ++ [wu8 r1.1])) (none)) (some (toB out, s_code, s_at, s_seed))) := seml_eq (f := 78) (m := 0) (l := 3) (by kernel_rfl)
theorem spec_l00Src_one_wd_eq (n : Int) (s_code : List Int) (s_at : Int) (s_seed : Int) :
    spec_l00Src_one_wd n s_code s_at s_seed = (
      sbind (spec_l00Src_pick_wd n s_code s_at s_seed) fun r1 =>
      some ((r1.1 == 0), r1.2.1, r1.2.2.1, r1.2.2.2)) := sem_eq (f := 67) (m := 0) rfl (by kernel_rfl)
theorem spec_l00Src_among_wdd_eq (list : List Int) (s_code : List Int) (s_at : Int) (s_seed : Int) :
    spec_l00Src_among_wdd list s_code s_at s_seed = (
      sbind (spec_l00Src_pick_wd (list.length : Int) s_code s_at s_seed) fun r1 =>
      sbind (idx list r1.1) fun x2 =>
      some (x2, r1.2.1, r1.2.2.1, r1.2.2.2)) := sem_eq (f := 98) (m := 0) rfl (by kernel_rfl)
theorem spec_l03Zeros_eq (n : Int) :
    spec_l03Zeros n = (
      sbind (spec_l00Max n 0) fun r1 =>
      sif (le3 0 r1 r1 && room r1.toNat 1) (some (toB (List.replicate r1.toNat (0 : Int)))) (none)) := sem_eq (f := 97) (m := 0) rfl (by kernel_rfl)
theorem spec_l00Max_eq (a : Int) (b : Int) :
    spec_l00Max a b = (
      sif (decide (a > b)) (some a) (some b)) := sem_eq (f := 115) (m := 0) rfl (by kernel_rfl)
theorem impl_EncodeHeader_eq (h_Kind : Int) (h_Refs : Int) (h_Messages : List (Int × Int × ByteArray)) :
    impl_EncodeHeader h_Kind h_Refs h_Messages = (
      sbind (impl_ValidHeader h_Kind h_Refs h_Messages) fun r1 =>
      sif (!r1) (some (bs [])) <|
      sbind (impl_Header_encode h_Kind h_Refs h_Messages) fun r2 =>
      some r2) := sem_eq (f := 28) (m := 0) rfl (by kernel_rfl)
theorem impl_ValidHeader_eq (h_Kind : Int) (h_Refs : Int) (h_Messages : List (Int × Int × ByteArray)) :
    impl_ValidHeader h_Kind h_Refs h_Messages = (
      sbind (impl_within h_Kind 1 3) fun r1 =>
      sif (r1)
       (sbind (impl_within h_Refs 0 1000) fun r2 =>
        sif (r2)
         (sif (decide ((h_Messages.length : Int) ≤ 24))
           (sbind (slices_ContainsFunc_simpl_Message_impl_Message_d_ValidHeader_1 h_Messages) fun r3 =>
            some !r3) (some false)) (some false)) (some false)) := sem_eq (f := 63) (m := 0) rfl (by kernel_rfl)
theorem impl_within_eq (n : Int) (low : Int) (high : Int) :
    impl_within n low high = (
      sif (decide (n ≥ low)) (some (decide (n ≤ high))) (some false)) := sem_eq (f := 43) (m := 0) rfl (by kernel_rfl)
theorem slices_ContainsFunc_simpl_Message_impl_Message_d_ValidHeader_1_eq (s : List (Int × Int × ByteArray)) :
    slices_ContainsFunc_simpl_Message_impl_Message_d_ValidHeader_1 s = (
      sbind (slices_IndexFunc_simpl_Message_impl_Message_d_ValidHeader_1 s) fun r1 =>
      some (decide (r1 ≥ 0))) := sem_eq (f := 99) (m := 0) rfl (by kernel_rfl)
theorem slices_IndexFunc_simpl_Message_impl_Message_d_ValidHeader_1_eq (s : List (Int × Int × ByteArray)) :
    slices_IndexFunc_simpl_Message_impl_Message_d_ValidHeader_1 s = (
      slices_IndexFunc_simpl_Message_impl_Message_d_ValidHeader_1_l2 s (s.length : Int) 0) := sem_eq (f := 116) (m := 0) rfl (by kernel_rfl)
theorem slices_IndexFunc_simpl_Message_impl_Message_d_ValidHeader_1_l2_eq (s : List (Int × Int × ByteArray)) (t7 : Int) (t8 : Int) :
    slices_IndexFunc_simpl_Message_impl_Message_d_ValidHeader_1_l2 s t7 t8 = (
      sif (decide (t8 < t7))
       (sbind (idx s t8) fun x1 =>
        sbind (impl_ValidHeader_1 x1.1 x1.2.1 x1.2.2) fun r2 =>
        sif (r2) (some t8) <|
        slices_IndexFunc_simpl_Message_impl_Message_d_ValidHeader_1_l2 s t7 (wi64 (t8 + 1))) (some (-1))) := seml_eq (f := 116) (m := 0) (l := 2) (by kernel_rfl)
theorem impl_ValidHeader_1_eq (m_Kind : Int) (m_Flags : Int) (m_Data : ByteArray) :
    impl_ValidHeader_1 m_Kind m_Flags m_Data = (
      sbind (impl_messageOk m_Kind m_Flags m_Data) fun r1 =>
      some !r1) := sem_eq (f := 100) (m := 0) rfl (by kernel_rfl)
theorem impl_messageOk_eq (m_Kind : Int) (m_Flags : Int) (m_Data : ByteArray) :
    impl_messageOk m_Kind m_Flags m_Data = (
      sbind (impl_within m_Kind 1 9) fun r1 =>
      sif (r1)
       (sbind (impl_within m_Flags 0 255) fun r2 =>
        sif (r2) (some (decide ((m_Data.size : Int) ≤ 200))) (some false)) (some false)) := sem_eq (f := 101) (m := 0) rfl (by kernel_rfl)
theorem impl_Header_encode_eq (h_Kind : Int) (h_Refs : Int) (h_Messages : List (Int × Int × ByteArray)) :
    impl_Header_encode h_Kind h_Refs h_Messages = (
      sbind (impl_putBytes h_Kind 1) fun r1 =>
      sbind (impl_putBytes h_Refs 2) fun r2 =>
      sif (joins r1 r2)
       (sbind (impl_putBytes (h_Messages.length : Int) 1) fun r3 =>
        sif (joins (r1 ++ r2) r3)
         (sbind (strings_Builder_WriteString_wv ((r1 ++ r2) ++ r3) ([] : List Int)) fun r4 =>
          impl_Header_encode_l4 h_Messages (h_Messages.length : Int) 0 r4.2) (none)) (none)) := sem_eq (f := 64) (m := 0) rfl (by kernel_rfl)
theorem impl_Header_encode_l4_eq (t20 : List (Int × Int × ByteArray)) (t21 : Int) (t22 : Int) (b_buf : List Int) :
    impl_Header_encode_l4 t20 t21 t22 b_buf = (
      sif (decide (t22 < t21))
       (sbind (idx t20 t22) fun x1 =>
        sbind (impl_putBytes x1.1 1) fun r2 =>
        sbind (impl_putBytes x1.2.1 1) fun r3 =>
        sif (joins r2 r3)
         (sbind (impl_putBytes (x1.2.2.size : Int) 1) fun r4 =>
          sif (joins (r2 ++ r3) r4)
           (sif (joins ((r2 ++ r3) ++ r4) x1.2.2)
             (sbind (strings_Builder_WriteString_wv (((r2 ++ r3) ++ r4) ++ x1.2.2) b_buf) fun r5 =>
              impl_Header_encode_l4 t20 t21 (wi64 (t22 + 1)) r5.2) (none)) (none)) (none)) <|
      sbind (strings_Builder_String b_buf) fun r1 =>
      some r1) := seml_eq (f := 64) (m := 0) (l := 4) (by kernel_rfl)
theorem impl_putBytes_eq (n : Int) (size : Int) :
    impl_putBytes n size = (
      sif (le3 0 size size && room size.toNat 1)
       (impl_putBytes_l3 n ((List.replicate size.toNat (0 : Int)).length : Int) 0 (List.replicate size.toNat (0 : Int))) (none)) := sem_eq (f := 75) (m := 0) rfl (by kernel_rfl)
theorem impl_putBytes_l3_eq (n : Int) (t10 : Int) (t11 : Int) (out : List Int) :
    impl_putBytes_l3 n t10 t11 out = (
      sif (decide (t11 < t10))
       (sif (decide (wi64 (8 * t11) < 0)) (none) <|
        sif (lt3 0 t11 (out.length : Int))
         (impl_putBytes_l3 n t10 (wi64 (t11 + 1)) (out.set t11.toNat (wu8 (Int.fdiv n (2 ^ (min (wi64 (8 * t11)).toNat 64)))))) (none)) (some (toB out))) := seml_eq (f := 75) (m := 0) (l := 3) (by kernel_rfl)
theorem strings_Builder_WriteString_wv_eq (s : ByteArray) (b_buf : List Int) :
    strings_Builder_WriteString_wv s b_buf = (
      sbind (strings_Builder_copyCheck ()) fun r1 =>
      sif (room (b_buf.length + ((ofB s).length)) 1) (some ((s.size : Int), b_buf ++ (ofB s))) (none)) := sem_eq (f := 81) (m := 0) rfl (by kernel_rfl)
theorem strings_Builder_copyCheck_eq : strings_Builder_copyCheck () = some () := ext_eq (E := E) (f := 108) (m := 0) (g := fun (_ : Unit) => (some () : Option Unit)) (by kernel_rfl) ()
theorem strings_Builder_String_eq (x0 : List Int) : strings_Builder_String x0 = textB x0 := ext_eq (E := E) (f := 83) (m := 0) (g := fun (d : List Int) => (textB (d) : Option (ByteArray))) (by kernel_rfl) (x0)
theorem spec_ValidHeader_eq (h_Kind : Int) (h_Refs : Int) (h_Messages : List (Int × Int × ByteArray)) :
    spec_ValidHeader h_Kind h_Refs h_Messages = (
      sbind (spec_l14Ok h_Kind h_Refs h_Messages) fun r1 =>
      some r1) := sem_eq (f := 29) (m := 0) rfl (by kernel_rfl)
theorem spec_l14Ok_eq (h_Kind : Int) (h_Refs : Int) (h_Messages : List (Int × Int × ByteArray)) :
    spec_l14Ok h_Kind h_Refs h_Messages = (
      sbind (spec_l00In h_Kind 1 3) fun r1 =>
      sif (!r1) (some false) <|
      sbind (spec_l00In h_Refs 0 1000) fun r2 =>
      sif (!r2) (some false) <|
      sif (decide ((h_Messages.length : Int) > 24)) (some false) (spec_l14Ok_l4 0 h_Kind h_Refs h_Messages)) := sem_eq (f := 65) (m := 0) rfl (by kernel_rfl)
theorem spec_l14Ok_l4_eq (i : Int) (h_Kind : Int) (h_Refs : Int) (h_Messages : List (Int × Int × ByteArray)) :
    spec_l14Ok_l4 i h_Kind h_Refs h_Messages = (
      sif (decide (i < (h_Messages.length : Int)))
       (sbind (idx h_Messages i) fun x1 =>
        sbind (spec_l00In x1.1 1 9) fun r2 =>
        sif (!r2) (some false) <|
        sbind (spec_l00In x1.2.1 0 255) fun r3 =>
        sif (!r3) (some false) <|
        sif (decide ((x1.2.2.size : Int) > 200)) (some false) <|
        spec_l14Ok_l4 (wi64 (i + 1)) h_Kind h_Refs h_Messages) (some true)) := seml_eq (f := 65) (m := 0) (l := 4) (by kernel_rfl)
theorem spec_l00In_eq (n : Int) (low : Int) (high : Int) :
    spec_l00In n low high = (
      sif (decide (n ≥ low)) (some (decide (n ≤ high))) (some false)) := sem_eq (f := 53) (m := 0) rfl (by kernel_rfl)
theorem impl_DecodeHeader_eq (s : ByteArray) :
    impl_DecodeHeader s = (
      sbind (impl_decoder_byte_w s false) fun r1 =>
      sbind (impl_decoder_number_w 2 r1.2.1 r1.2.2) fun r2 =>
      sbind (impl_decoder_byte_w r2.2.1 r2.2.2) fun r3 =>
      impl_DecodeHeader_l4 r3.1 0 0 r3.2.1 r3.2.2 r1.1 r2.1 ([] : List (Int × Int × ByteArray)) ([] : List (Int × Int × ByteArray))) := sem_eq (f := 30) (m := 0) rfl (by kernel_rfl)
theorem impl_DecodeHeader_l4_eq (n : Int) (t2_Kind : Int) (t2_Refs : Int) (d_rest : ByteArray) (d_bad : Bool) (h_Kind : Int) (h_Refs : Int) (t2_Messages : List (Int × Int × ByteArray)) (h_Messages : List (Int × Int × ByteArray)) :
    impl_DecodeHeader_l4 n t2_Kind t2_Refs d_rest d_bad h_Kind h_Refs t2_Messages h_Messages = (
      sif (decide (n > 0))
       (sif (!d_bad)
         (sbind (impl_decoder_byte_w d_rest d_bad) fun r1 =>
          sbind (impl_decoder_byte_w r1.2.1 r1.2.2) fun r2 =>
          sbind (impl_decoder_byte_w r2.2.1 r2.2.2) fun r3 =>
          sbind (impl_decoder_take_w r3.1 r3.2.1 r3.2.2) fun r4 =>
          sif (room (h_Messages.length + 1) 32)
           (impl_DecodeHeader_l4 (wi64 (n - 1)) t2_Kind t2_Refs r4.2.1 r4.2.2 h_Kind h_Refs t2_Messages (h_Messages ++ [(r1.1, r2.1, r4.1)])) (none)) <|
        sif (d_bad) (some (0, 0, false, ([] : List (Int × Int × ByteArray)))) <|
        sif (!seq d_rest (bs [])) (some (0, 0, false, ([] : List (Int × Int × ByteArray)))) <|
        sbind (impl_ValidHeader h_Kind h_Refs h_Messages) fun r1 =>
        sif (!r1) (some (0, 0, false, ([] : List (Int × Int × ByteArray)))) (some (h_Kind, h_Refs, true, h_Messages))) <|
      sif (d_bad) (some (0, 0, false, ([] : List (Int × Int × ByteArray)))) <|
      sif (!seq d_rest (bs [])) (some (0, 0, false, ([] : List (Int × Int × ByteArray)))) <|
      sbind (impl_ValidHeader h_Kind h_Refs h_Messages) fun r1 =>
      sif (!r1) (some (0, 0, false, ([] : List (Int × Int × ByteArray)))) (some (h_Kind, h_Refs, true, h_Messages))) := seml_eq (f := 30) (m := 0) (l := 4) (by kernel_rfl)
theorem impl_decoder_byte_w_eq (d_rest : ByteArray) (d_bad : Bool) :
    impl_decoder_byte_w d_rest d_bad = (
      sbind (impl_decoder_number_w 1 d_rest d_bad) fun r1 =>
      some (r1.1, r1.2.1, r1.2.2)) := sem_eq (f := 34) (m := 0) rfl (by kernel_rfl)
theorem impl_decoder_number_w_eq (size : Int) (d_rest : ByteArray) (d_bad : Bool) :
    impl_decoder_number_w size d_rest d_bad = (
      sbind (impl_decoder_take_w size d_rest d_bad) fun r1 =>
      sbind (impl_getBits r1.1) fun r2 =>
      some (wi64 r2, r1.2.1, r1.2.2)) := sem_eq (f := 42) (m := 0) rfl (by kernel_rfl)
theorem impl_decoder_take_w_eq (n : Int) (d_rest : ByteArray) (d_bad : Bool) :
    impl_decoder_take_w n d_rest d_bad = (
      sbind (impl_cut d_rest 0 n) fun r1 =>
      sif (!r1.2) (some (bs [], d_rest, true)) <|
      sif (le3 0 n (d_rest.size : Int)) (some (r1.1, d_rest.extract n.toNat d_rest.size, d_bad)) (none)) := sem_eq (f := 41) (m := 0) rfl (by kernel_rfl)
theorem impl_cut_eq (s : ByteArray) (at_ : Int) (size : Int) :
    impl_cut s at_ size = (
      sif (decide (size < 0)) (some (bs [], false)) <|
      sbind (impl_within at_ 0 (wi64 ((s.size : Int) - size))) fun r1 =>
      sif (!r1) (some (bs [], false)) <|
      sif (le3 0 (wi64 (at_ + size)) (s.size : Int))
       (sif (le3 0 at_ (wi64 (at_ + size))) (some (s.extract at_.toNat ((wi64 (at_ + size)).toNat), true)) (none)) (none)) := sem_eq (f := 84) (m := 0) rfl (by kernel_rfl)
theorem impl_getBits_eq (s : ByteArray) :
    impl_getBits s = (
      impl_getBits_l3 s 0 (s.size : Int) 0) := sem_eq (f := 85) (m := 0) rfl (by kernel_rfl)
theorem impl_getBits_l3_eq (s : ByteArray) (n : Int) (t6 : Int) (t7 : Int) :
    impl_getBits_l3 s n t6 t7 = (
      sif (decide (t7 < t6))
       (sbind (bidx s t7) fun b1 =>
        sif (decide (wi64 (8 * t7) < 0)) (none) <|
        impl_getBits_l3 s (bits .or .u64 n (wu64 ((wu64 b1) * 2 ^ (min (wi64 (8 * t7)).toNat 64)))) t6 (wi64 (t7 + 1))) (some n)) := seml_eq (f := 85) (m := 0) (l := 3) (by kernel_rfl)
theorem spec_SameHeader_eq (a_Kind : Int) (a_Refs : Int) (a_Messages : List (Int × Int × ByteArray)) (b_Kind : Int) (b_Refs : Int) (b_Messages : List (Int × Int × ByteArray)) :
    spec_SameHeader a_Kind a_Refs a_Messages b_Kind b_Refs b_Messages = (
      sif ((a_Kind != b_Kind)) (some false) <|
      sif ((a_Refs != b_Refs)) (some false) <|
      sif (((a_Messages.length : Int) != (b_Messages.length : Int))) (some false) <|
      spec_SameHeader_l4 0 a_Kind a_Refs a_Messages b_Kind b_Refs b_Messages) := sem_eq (f := 31) (m := 0) rfl (by kernel_rfl)
theorem spec_SameHeader_l4_eq (i : Int) (a_Kind : Int) (a_Refs : Int) (a_Messages : List (Int × Int × ByteArray)) (b_Kind : Int) (b_Refs : Int) (b_Messages : List (Int × Int × ByteArray)) :
    spec_SameHeader_l4 i a_Kind a_Refs a_Messages b_Kind b_Refs b_Messages = (
      sif (decide (i < (a_Messages.length : Int)))
       (sbind (idx a_Messages i) fun x1 =>
        sbind (idx b_Messages i) fun x2 =>
        sif (!((x1.1 == x2.1) && ((x1.2.1 == x2.2.1) && seq x1.2.2 x2.2.2))) (some false) <|
        spec_SameHeader_l4 (wi64 (i + 1)) a_Kind a_Refs a_Messages b_Kind b_Refs b_Messages) (some true)) := seml_eq (f := 31) (m := 0) (l := 4) (by kernel_rfl)
theorem spec_DrawDecodeHeader_eq (code : List Int) :
    spec_DrawDecodeHeader code = (
      sbind (spec_l00From code) fun r1 =>
      sbind (spec_l14DrawHeader_wd 20 r1.1 r1.2.1 r1.2.2) fun r2 =>
      sbind (spec_EncodeHeader r2.1 r2.2.1 r2.2.2.2.2.2) fun r3 =>
      sbind (spec_l00Src_one_wd 2 r2.2.2.1 r2.2.2.2.1 r2.2.2.2.2.1) fun r4 =>
      sif (r4.1) (some r3) <|
      sbind (spec_l02Bend_wdd r3 [bs [0], bs [1], bs [2], bs [3], bs [9], bs [10], bs [200], bs [201], bs [255]] r4.2.1 r4.2.2.1 r4.2.2.2) fun r5 =>
      some r5.1) := sem_eq (f := 32) (m := 0) rfl (by kernel_rfl)
theorem spec_EncodeHeader_eq (h_Kind : Int) (h_Refs : Int) (h_Messages : List (Int × Int × ByteArray)) :
    spec_EncodeHeader h_Kind h_Refs h_Messages = (
      sbind (spec_l14Ok h_Kind h_Refs h_Messages) fun r1 =>
      sif (!r1) (some (bs [])) <|
      sbind (spec_l14Encode h_Kind h_Refs h_Messages) fun r2 =>
      some r2) := sem_eq (f := 66) (m := 0) rfl (by kernel_rfl)
theorem spec_l14Encode_eq (h_Kind : Int) (h_Refs : Int) (h_Messages : List (Int × Int × ByteArray)) :
    spec_l14Encode h_Kind h_Refs h_Messages = (
      sbind (spec_l02Byte h_Kind) fun r1 =>
      sbind (spec_l02Put h_Refs 2 false) fun r2 =>
      sif (joins r1 r2)
       (sbind (spec_l02Byte (h_Messages.length : Int)) fun r3 =>
        sif (joins (r1 ++ r2) r3) (spec_l14Encode_l3 ((r1 ++ r2) ++ r3) 0 h_Kind h_Refs h_Messages) (none)) (none)) := sem_eq (f := 102) (m := 0) rfl (by kernel_rfl)
theorem spec_l14Encode_l3_eq (out : ByteArray) (i : Int) (h_Kind : Int) (h_Refs : Int) (h_Messages : List (Int × Int × ByteArray)) :
    spec_l14Encode_l3 out i h_Kind h_Refs h_Messages = (
      sif (decide (i < (h_Messages.length : Int)))
       (sbind (idx h_Messages i) fun x1 =>
        sbind (spec_l02Byte x1.1) fun r2 =>
        sbind (spec_l02Byte x1.2.1) fun r3 =>
        sif (joins r2 r3)
         (sbind (spec_l02Byte (x1.2.2.size : Int)) fun r4 =>
          sif (joins (r2 ++ r3) r4)
           (sif (joins ((r2 ++ r3) ++ r4) x1.2.2)
             (sif (joins out (((r2 ++ r3) ++ r4) ++ x1.2.2))
               (spec_l14Encode_l3 (out ++ (((r2 ++ r3) ++ r4) ++ x1.2.2)) (wi64 (i + 1)) h_Kind h_Refs h_Messages) (none)) (none)) (none)) (none)) (some out)) := seml_eq (f := 102) (m := 0) (l := 3) (by kernel_rfl)
theorem spec_l02Byte_eq (n : Int) :
    spec_l02Byte n = (
      some (toB [wu8 n])) := sem_eq (f := 117) (m := 0) rfl (by kernel_rfl)
theorem spec_l02Put_eq (n : Int) (size : Int) (big : Bool) :
    spec_l02Put n size big = (
      spec_l02Put_l3 n size big (bs []) 0) := sem_eq (f := 118) (m := 0) rfl (by kernel_rfl)
theorem spec_l02Put_l3_eq (n : Int) (size : Int) (big : Bool) (out : ByteArray) (k : Int) :
    spec_l02Put_l3 n size big out k = (
      sif (decide (k < size))
       (sif (decide (wu64 (wi64 (8 * k)) < 0)) (none) <|
        sbind (spec_l02Byte (bits .and .i64 (Int.fdiv n (2 ^ (min (wu64 (wi64 (8 * k))).toNat 64))) 255)) fun r1 =>
        sif (big) (sif (joins r1 out) (spec_l02Put_l3 n size big (r1 ++ out) (wi64 (k + 1))) (none)) <|
        sif (joins out r1) (spec_l02Put_l3 n size big (out ++ r1) (wi64 (k + 1))) (none)) (some out)) := seml_eq (f := 118) (m := 0) (l := 3) (by kernel_rfl)
theorem spec_l02Bend_wdd_eq (t : ByteArray) (with_ : List ByteArray) (s_code : List Int) (s_at : Int) (s_seed : Int) :
    spec_l02Bend_wdd t with_ s_code s_at s_seed = (
      sif (seq t (bs []))
       (sbind (spec_l00Src_text_wdd with_ s_code s_at s_seed) fun r1 =>
        some (r1.1, r1.2.1, r1.2.2.1, r1.2.2.2)) <|
      sbind (spec_l00Src_pick_wd (t.size : Int) s_code s_at s_seed) fun r1 =>
      sbind (spec_l00Src_pick_wd 3 r1.2.1 r1.2.2.1 r1.2.2.2) fun r2 =>
      sif ((r2.1 == 0))
       (sif (le3 0 r1.1 (t.size : Int))
         (sif (le3 0 (wi64 (r1.1 + 1)) (t.size : Int))
           (sif (joins (t.extract 0 r1.1.toNat) (t.extract ((wi64 (r1.1 + 1)).toNat) t.size))
             (some ((t.extract 0 r1.1.toNat) ++ (t.extract ((wi64 (r1.1 + 1)).toNat) t.size), r2.2.1, r2.2.2.1, r2.2.2.2)) (none)) (none)) (none)) <|
      sif ((r2.1 == 1))
       (sif (le3 0 r1.1 (t.size : Int))
         (sbind (spec_l00Src_text_wdd with_ r2.2.1 r2.2.2.1 r2.2.2.2) fun r3 =>
          sif (joins (t.extract 0 r1.1.toNat) r3.1)
           (sif (le3 0 r1.1 (t.size : Int))
             (sif (joins ((t.extract 0 r1.1.toNat) ++ r3.1) (t.extract r1.1.toNat t.size))
               (some (((t.extract 0 r1.1.toNat) ++ r3.1) ++ (t.extract r1.1.toNat t.size), r3.2.1, r3.2.2.1, r3.2.2.2)) (none)) (none)) (none)) (none)) <|
      sif (le3 0 r1.1 (t.size : Int))
       (sbind (spec_l00Src_text_wdd with_ r2.2.1 r2.2.2.1 r2.2.2.2) fun r3 =>
        sif (joins (t.extract 0 r1.1.toNat) r3.1)
         (sif (le3 0 (wi64 (r1.1 + 1)) (t.size : Int))
           (sif (joins ((t.extract 0 r1.1.toNat) ++ r3.1) (t.extract ((wi64 (r1.1 + 1)).toNat) t.size))
             (some (((t.extract 0 r1.1.toNat) ++ r3.1) ++ (t.extract ((wi64 (r1.1 + 1)).toNat) t.size), r3.2.1, r3.2.2.1, r3.2.2.2)) (none)) (none)) (none)) (none)) := sem_eq (f := 68) (m := 0) rfl (by kernel_rfl)
theorem spec_l00Src_text_wdd_eq (list : List ByteArray) (s_code : List Int) (s_at : Int) (s_seed : Int) :
    spec_l00Src_text_wdd list s_code s_at s_seed = (
      sbind (spec_l00Src_pick_wd (list.length : Int) s_code s_at s_seed) fun r1 =>
      sbind (idx list r1.1) fun x2 =>
      some (x2, r1.2.1, r1.2.2.1, r1.2.2.2)) := sem_eq (f := 103) (m := 0) rfl (by kernel_rfl)
end Go.Ve.X
