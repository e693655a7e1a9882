/- The equations of the functions that 'FnLzShort' reaches (printed by plan.py): what each answers. No condition. -/
import Derived.Test.YtkfcmjdooldonaaEnvFnLzShort
namespace Go.Ve.X
open Go.Proofs Go.Ve Go.RowKit
set_option linter.unusedVariables false
set_option maxRecDepth 100000
theorem laws_FnLzShort_eq (code : List Int) (more : List Int) :
    laws_FnLzShort code more = (
      sif (decide ((code.length : Int) > 1048576)) (some true) <|
      sif (decide ((more.length : Int) > 1048576)) (some true) <|
      sbind (spec_E8Data code) fun r1 =>
      sbind (impl_LzEncode r1) fun r2 =>
      sbind (impl_LzDecode r2) fun r3 =>
      sif (!r3.2) (some false) <|
      sif (!seq r3.1 r1) (some false) <|
      sif (decide ((r2.size : Int) > wi64 (2 * (r1.size : Int)))) (some false) <|
      sif (decide ((more.length : Int) > 8)) (laws_FnLzShort_l14 more 8 ([] : List Int)) <|
      sif (((more.length : Int) == 0)) (some true) <|
      laws_FnLzShort_l14 more (more.length : Int) ([] : List Int)) := sem_eq (f := 3) (m := 0) rfl (by kernel_rfl)
theorem laws_FnLzShort_l14_eq (more : List Int) (k : Int) (long : List Int) :
    laws_FnLzShort_l14 more k long = (
      sif (decide (wi64 ((long.length : Int) + k) ≤ 512))
       (sif (le3 0 k (more.length : Int))
         (sif (room (long.length + (((more.take k.toNat).drop 0).length)) 1) (laws_FnLzShort_l14 more k (long ++ ((more.take k.toNat).drop 0))) (none)) (none)) <|
      sbind (impl_LzEncode (toB long)) fun r1 =>
      sbind (impl_LzDecode r1) fun r2 =>
      sif (r2.2)
       (sif (seq r2.1 (toB long))
         (some (decide ((r1.size : Int) ≤ wi64 ((wi64 ((wi64 (2 * k)) + 10)) + (wi64 (3 * (wi64 ((wi64 (Int.tdiv (long.length : Int) 130)) + 1)))))))) (some false)) (some false)) := seml_eq (f := 3) (m := 0) (l := 14) (by kernel_rfl)
theorem spec_E8Data_eq (code : List Int) :
    spec_E8Data code = (
      sbind (spec_l00From code) fun r1 =>
      sbind (spec_l18DrawData_wd r1.1 r1.2.1 r1.2.2) fun r2 =>
      sif (decide ((r2.1.size : Int) > 512)) (sif (le3 0 512 (r2.1.size : Int)) (some (r2.1.extract 0 512)) (none)) (some r2.1)) := sem_eq (f := 9) (m := 0) rfl (by kernel_rfl)
theorem spec_l00From_eq (code : List Int) :
    spec_l00From code = (
      some (code, 0, 0)) := sem_eq (f := 43) (m := 0) rfl (by kernel_rfl)
theorem spec_l18DrawData_wd_eq (s_code : List Int) (s_at : Int) (s_seed : Int) :
    spec_l18DrawData_wd s_code s_at s_seed = (
      sbind (spec_l00Src_pick_wd 6 s_code s_at s_seed) fun r1 =>
      spec_l18DrawData_wd_l3 r1.1 r1.2.1 r1.2.2.1 r1.2.2.2 ([] : List Int)) := sem_eq (f := 44) (m := 0) rfl (by kernel_rfl)
theorem spec_l18DrawData_wd_l3_eq (k : Int) (s_code : List Int) (s_at : Int) (s_seed : Int) (out : List Int) :
    spec_l18DrawData_wd_l3 k s_code s_at s_seed out = (
      sif (decide (k > 0))
       (sbind (spec_l00Src_pick_wd 4 s_code s_at s_seed) fun r1 =>
        sif ((r1.1 == 0))
         (sbind (spec_l00Src_word_wd 12 r1.2.1 r1.2.2.1 r1.2.2.2) fun r2 =>
          sif (room (out.length + ((ofB r2.1).length)) 1) (spec_l18DrawData_wd_l3 (wi64 (k - 1)) r2.2.1 r2.2.2.1 r2.2.2.2 (out ++ (ofB r2.1))) (none)) <|
        sif ((r1.1 == 1))
         (sbind (spec_l00Src_next_wd r1.2.1 r1.2.2.1 r1.2.2.2) fun r2 =>
          sbind (spec_l00Src_pick_wd 40 r2.2.1 r2.2.2.1 r2.2.2.2) fun r3 =>
          spec_l18DrawData_wd_l14 k (wu8 r2.1) (wi64 (1 + r3.1)) r3.2.1 r3.2.2.1 r3.2.2.2 out) <|
        sif ((r1.1 == 2))
         (sbind (spec_l00Src_word_wd 5 r1.2.1 r1.2.2.1 r1.2.2.2) fun r2 =>
          sbind (spec_l00Src_pick_wd 20 r2.2.1 r2.2.2.1 r2.2.2.2) fun r3 =>
          spec_l18DrawData_wd_l20 k r2.1 r3.1 r3.2.1 r3.2.2.1 r3.2.2.2 out) <|
        sif (decide ((out.length : Int) > 0))
         (sbind (spec_l00Src_pick_wd (out.length : Int) r1.2.1 r1.2.2.1 r1.2.2.2) fun r2 =>
          sif (le3 0 r2.1 (out.length : Int))
           (sif (room (out.length + (((out.take out.length).drop r2.1.toNat).length)) 1)
             (spec_l18DrawData_wd_l3 (wi64 (k - 1)) r2.2.1 r2.2.2.1 r2.2.2.2 (out ++ ((out.take out.length).drop r2.1.toNat))) (none)) (none)) <|
        spec_l18DrawData_wd_l3 (wi64 (k - 1)) r1.2.1 r1.2.2.1 r1.2.2.2 out) <|
      sif (decide ((out.length : Int) > 500))
       (sbind (spec_l00Src_one_wd 8 s_code s_at s_seed) fun r1 =>
        sif (!r1.1)
         (sif (le3 0 500 (out.length : Int)) (some (toB ((out.take 500).drop 0), r1.2.1, r1.2.2.1, r1.2.2.2)) (none)) <|
        sif (decide ((out.length : Int) > 1200))
         (sbind (spec_l00Src_pick_wd 4 r1.2.1 r1.2.2.1 r1.2.2.2) fun r2 =>
          sif (le3 0 (wi64 (1098 + r2.1)) (out.length : Int)) (some (toB ((out.take ((wi64 (1098 + r2.1)).toNat)).drop 0), r2.2.1, r2.2.2.1, r2.2.2.2)) (none)) (some (toB out, r1.2.1, r1.2.2.1, r1.2.2.2))) <|
      sif (decide ((out.length : Int) > 1200))
       (sbind (spec_l00Src_pick_wd 4 s_code s_at s_seed) fun r1 =>
        sif (le3 0 (wi64 (1098 + r1.1)) (out.length : Int)) (some (toB ((out.take ((wi64 (1098 + r1.1)).toNat)).drop 0), r1.2.1, r1.2.2.1, r1.2.2.2)) (none)) (some (toB out, s_code, s_at, s_seed))) := seml_eq (f := 44) (m := 0) (l := 3) (by kernel_rfl)
theorem spec_l18DrawData_wd_l14_eq (k : Int) (b : Int) (n : Int) (s_code : List Int) (s_at : Int) (s_seed : Int) (out : List Int) :
    spec_l18DrawData_wd_l14 k b n s_code s_at s_seed out = (
      sif (decide (n > 0))
       (sif (room (out.length + 1) 1) (spec_l18DrawData_wd_l14 k b (wi64 (n - 1)) s_code s_at s_seed (out ++ [b])) (none)) <|
      spec_l18DrawData_wd_l3 (wi64 (k - 1)) s_code s_at s_seed out) := seml_eq (f := 44) (m := 0) (l := 14) (by kernel_rfl)
theorem spec_l18DrawData_wd_l20_eq (k : Int) (unit : ByteArray) (n : Int) (s_code : List Int) (s_at : Int) (s_seed : Int) (out : List Int) :
    spec_l18DrawData_wd_l20 k unit n s_code s_at s_seed out = (
      sif (decide (n > 0))
       (sif (room (out.length + ((ofB unit).length)) 1) (spec_l18DrawData_wd_l20 k unit (wi64 (n - 1)) s_code s_at s_seed (out ++ (ofB unit))) (none)) <|
      spec_l18DrawData_wd_l3 (wi64 (k - 1)) s_code s_at s_seed out) := seml_eq (f := 44) (m := 0) (l := 20) (by kernel_rfl)
theorem spec_l00Src_pick_wd_eq (n : Int) (s_code : List Int) (s_at : Int) (s_seed : Int) :
    spec_l00Src_pick_wd n s_code s_at s_seed = (
      sif (decide (n ≤ 1)) (some (0, s_code, s_at, s_seed)) <|
      sbind (spec_l00Src_next_wd s_code s_at s_seed) fun r1 =>
      sif (decide (n > 200))
       (sbind (spec_l00Src_next_wd r1.2.1 r1.2.2.1 r1.2.2.2) fun r2 =>
        sif (decide (n = 0)) (none) <|
        some (Int.tmod (wi64 ((wi64 (r1.1 * 256)) + r2.1)) n, r2.2.1, r2.2.2.1, r2.2.2.2)) <|
      sif (decide (n = 0)) (none) (some (Int.tmod r1.1 n, r1.2.1, r1.2.2.1, r1.2.2.2))) := sem_eq (f := 93) (m := 0) rfl (by kernel_rfl)
theorem spec_l00Src_next_wd_eq (s_code : List Int) (s_at : Int) (s_seed : Int) :
    spec_l00Src_next_wd s_code s_at s_seed = (
      sif (decide (s_at < (s_code.length : Int)))
       (sbind (idx s_code s_at) fun x1 =>
        sif (decide (wi64 (s_at + 1) ≤ (s_code.length : Int)))
         (some (wi64 x1, s_code, wi64 (s_at + 1), wu64 ((wu64 ((wu64 (s_seed * 6364136223846793005)) + (wu64 (wi64 x1)))) + 1442695040888963407))) <|
        some (wi64 (bits .and .u64 (Int.fdiv (wu64 ((wu64 ((wu64 (s_seed * 6364136223846793005)) + (wu64 (wi64 x1)))) + 1442695040888963407)) (2 ^ 40)) 255), s_code, wi64 (s_at + 1), wu64 ((wu64 ((wu64 (s_seed * 6364136223846793005)) + (wu64 (wi64 x1)))) + 1442695040888963407))) <|
      sif (decide (wi64 (s_at + 1) ≤ (s_code.length : Int)))
       (some (0, s_code, wi64 (s_at + 1), wu64 ((wu64 ((wu64 (s_seed * 6364136223846793005)) + 0)) + 1442695040888963407))) <|
      some (wi64 (bits .and .u64 (Int.fdiv (wu64 ((wu64 ((wu64 (s_seed * 6364136223846793005)) + 0)) + 1442695040888963407)) (2 ^ 40)) 255), s_code, wi64 (s_at + 1), wu64 ((wu64 ((wu64 (s_seed * 6364136223846793005)) + 0)) + 1442695040888963407))) := sem_eq (f := 94) (m := 0) rfl (by kernel_rfl)
theorem spec_l00Src_word_wd_eq (n : Int) (s_code : List Int) (s_at : Int) (s_seed : Int) :
    spec_l00Src_word_wd n s_code s_at s_seed = (
      sbind (spec_l00Src_pick_wd n s_code s_at s_seed) fun r1 =>
      spec_l00Src_word_wd_l3 r1.1 r1.2.1 r1.2.2.1 r1.2.2.2 ([] : List Int)) := sem_eq (f := 67) (m := 0) rfl (by kernel_rfl)
theorem spec_l00Src_word_wd_l3_eq (k : Int) (s_code : List Int) (s_at : Int) (s_seed : Int) (out : List Int) :
    spec_l00Src_word_wd_l3 k s_code s_at s_seed out = (
      sif (decide (k > 0))
       (sbind (spec_l00Src_next_wd s_code s_at s_seed) fun r1 =>
        sif (room (out.length + 1) 1) (spec_l00Src_word_wd_l3 (wi64 (k - 1)) r1.2.1 r1.2.2.1 r1.2.2.2 (out ++ [wu8 r1.1])) (none)) (some (toB out, s_code, s_at, s_seed))) := seml_eq (f := 67) (m := 0) (l := 3) (by kernel_rfl)
theorem spec_l00Src_one_wd_eq (n : Int) (s_code : List Int) (s_at : Int) (s_seed : Int) :
    spec_l00Src_one_wd n s_code s_at s_seed = (
      sbind (spec_l00Src_pick_wd n s_code s_at s_seed) fun r1 =>
      some ((r1.1 == 0), r1.2.1, r1.2.2.1, r1.2.2.2)) := sem_eq (f := 63) (m := 0) rfl (by kernel_rfl)
theorem impl_LzEncode_eq (data : ByteArray) :
    impl_LzEncode data = (
      sif (decide ((data.size : Int) > 1100)) (some (bs [])) <|
      sbind (impl_lzEncode data) fun r1 =>
      some r1) := sem_eq (f := 10) (m := 0) rfl (by kernel_rfl)
theorem impl_lzEncode_eq (data : ByteArray) :
    impl_lzEncode data = (
      impl_lzEncode_l4 data 0 0 ([] : List Int)) := sem_eq (f := 45) (m := 0) rfl (by kernel_rfl)
theorem impl_lzEncode_l4_eq (data : ByteArray) (pending : Int) (at_ : Int) (out_buf : List Int) :
    impl_lzEncode_l4 data pending at_ out_buf = (
      sif (decide (at_ < (data.size : Int)))
       (sbind (impl_matchAt data at_) fun r1 =>
        sif (decide (r1.1 < 3)) (impl_lzEncode_l4 data pending (wi64 (at_ + 1)) out_buf) <|
        sif (le3 0 at_ (data.size : Int))
         (sif (le3 0 pending at_)
           (sbind (impl_literals (data.extract pending.toNat at_.toNat)) fun r2 =>
            sbind (strings_Builder_WriteString_wv r2 out_buf) fun r3 =>
            sbind (impl_putBytes r1.2 2) fun r4 =>
            sif (joins (toB [wu8 (wi64 (r1.1 + 125))]) r4)
             (sbind (strings_Builder_WriteString_wv ((toB [wu8 (wi64 (r1.1 + 125))]) ++ r4) r3.2) fun r5 =>
              impl_lzEncode_l4 data (wi64 (at_ + r1.1)) (wi64 (at_ + r1.1)) r5.2) (none)) (none)) (none)) <|
      sbind (strings_Builder_String out_buf) fun r1 =>
      sif (le3 0 pending (data.size : Int))
       (sbind (impl_literals (data.extract pending.toNat data.size)) fun r2 =>
        sif (joins r1 r2) (some (r1 ++ r2)) (none)) (none)) := seml_eq (f := 45) (m := 0) (l := 4) (by kernel_rfl)
theorem impl_matchAt_eq (data : ByteArray) (at_ : Int) :
    impl_matchAt data at_ = (
      impl_matchAt_l3 data at_ 0 0 1) := sem_eq (f := 99) (m := 0) rfl (by kernel_rfl)
theorem impl_matchAt_l3_eq (data : ByteArray) (at_ : Int) (most : Int) (distance : Int) (d : Int) :
    impl_matchAt_l3 data at_ most distance d = (
      sif (decide (d ≤ at_)) (impl_matchAt_l6 data at_ most distance d 0) (some (most, distance))) := seml_eq (f := 99) (m := 0) (l := 3) (by kernel_rfl)
theorem impl_matchAt_l6_eq (data : ByteArray) (at_ : Int) (most : Int) (distance : Int) (d : Int) (n : Int) :
    impl_matchAt_l6 data at_ most distance d n = (
      sif (decide (n < 130))
       (sif (decide (wi64 (at_ + n) < (data.size : Int)))
         (sbind (bidx data (wi64 (at_ + n))) fun b1 =>
          sbind (bidx data (wi64 ((wi64 (at_ + n)) - d))) fun b2 =>
          sif ((b1 == b2)) (impl_matchAt_l6 data at_ most distance d (wi64 (n + 1))) <|
          sif (decide (n > most)) (impl_matchAt_l3 data at_ n d (wi64 (d + 1))) <|
          impl_matchAt_l3 data at_ most distance (wi64 (d + 1))) <|
        sif (decide (n > most)) (impl_matchAt_l3 data at_ n d (wi64 (d + 1))) <|
        impl_matchAt_l3 data at_ most distance (wi64 (d + 1))) <|
      sif (decide (n > most)) (impl_matchAt_l3 data at_ n d (wi64 (d + 1))) <|
      impl_matchAt_l3 data at_ most distance (wi64 (d + 1))) := seml_eq (f := 99) (m := 0) (l := 6) (by kernel_rfl)
theorem impl_literals_eq (s : ByteArray) :
    impl_literals s = (
      impl_literals_l2 s ([] : List Int)) := sem_eq (f := 101) (m := 0) rfl (by kernel_rfl)
theorem impl_literals_l2_eq (s : ByteArray) (out_buf : List Int) :
    impl_literals_l2 s out_buf = (
      sif (!seq s (bs []))
       (sif (le3 0 (if (s.size : Int) < 128 then (s.size : Int) else 128) (s.size : Int))
         (sif (joins (toB [wu8 (wi64 ((if (s.size : Int) < 128 then (s.size : Int) else 128) - 1))]) (s.extract 0 ((if (s.size : Int) < 128 then (s.size : Int) else 128).toNat)))
           (sbind (strings_Builder_WriteString_wv ((toB [wu8 (wi64 ((if (s.size : Int) < 128 then (s.size : Int) else 128) - 1))]) ++ (s.extract 0 ((if (s.size : Int) < 128 then (s.size : Int) else 128).toNat))) out_buf) fun r1 =>
            sif (le3 0 (if (s.size : Int) < 128 then (s.size : Int) else 128) (s.size : Int))
             (impl_literals_l2 (s.extract ((if (s.size : Int) < 128 then (s.size : Int) else 128).toNat) s.size) r1.2) (none)) (none)) (none)) <|
      sbind (strings_Builder_String out_buf) fun r1 =>
      some r1) := seml_eq (f := 101) (m := 0) (l := 2) (by kernel_rfl)
theorem strings_Builder_WriteString_wv_eq (s : ByteArray) (b_buf : List Int) :
    strings_Builder_WriteString_wv s b_buf = (
      sbind (strings_Builder_copyCheck ()) fun r1 =>
      sif (room (b_buf.length + ((ofB s).length)) 1) (some ((s.size : Int), b_buf ++ (ofB s))) (none)) := sem_eq (f := 100) (m := 0) rfl (by kernel_rfl)
theorem strings_Builder_copyCheck_eq : strings_Builder_copyCheck () = some () := ext_eq (E := E) (f := 146) (m := 0) (g := fun (_ : Unit) => (some () : Option Unit)) (by kernel_rfl) ()
theorem strings_Builder_String_eq (x0 : List Int) : strings_Builder_String x0 = textB x0 := ext_eq (E := E) (f := 103) (m := 0) (g := fun (d : List Int) => (textB (d) : Option (ByteArray))) (by kernel_rfl) (x0)
theorem impl_putBytes_eq (n : Int) (size : Int) :
    impl_putBytes n size = (
      sif (le3 0 size size && room size.toNat 1)
       (impl_putBytes_l3 n ((List.replicate size.toNat (0 : Int)).length : Int) 0 (List.replicate size.toNat (0 : Int))) (none)) := sem_eq (f := 102) (m := 0) rfl (by kernel_rfl)
theorem impl_putBytes_l3_eq (n : Int) (t10 : Int) (t11 : Int) (out : List Int) :
    impl_putBytes_l3 n t10 t11 out = (
      sif (decide (t11 < t10))
       (sif (decide (wi64 (8 * t11) < 0)) (none) <|
        sif (lt3 0 t11 (out.length : Int))
         (impl_putBytes_l3 n t10 (wi64 (t11 + 1)) (out.set t11.toNat (wu8 (Int.fdiv n (2 ^ (min (wi64 (8 * t11)).toNat 64)))))) (none)) (some (toB out))) := seml_eq (f := 102) (m := 0) (l := 3) (by kernel_rfl)
theorem impl_LzDecode_eq (data : ByteArray) :
    impl_LzDecode data = (
      impl_LzDecode_l3 data false ([] : List Int)) := sem_eq (f := 11) (m := 0) rfl (by kernel_rfl)
theorem impl_LzDecode_l3_eq (d_rest : ByteArray) (d_bad : Bool) (out : List Int) :
    impl_LzDecode_l3 d_rest d_bad out = (
      sif (!seq d_rest (bs []))
       (sif (!d_bad)
         (sbind (impl_decoder_byte_w d_rest d_bad) fun r1 =>
          sif (decide (r1.1 < 128))
           (sbind (impl_decoder_take_w (wi64 (r1.1 + 1)) r1.2.1 r1.2.2) fun r2 =>
            sif (room (out.length + ((ofB r2.1).length)) 1)
             (sif (decide (((out ++ (ofB r2.1)).length : Int) > 1100)) (some (bs [], false)) <|
              impl_LzDecode_l3 r2.2.1 r2.2.2 (out ++ (ofB r2.1))) (none)) <|
          sbind (impl_decoder_number_w 2 r1.2.1 r1.2.2) fun r2 =>
          sbind (impl_within r2.1 1 (out.length : Int)) fun r3 =>
          sif (!r3) (some (bs [], false)) <|
          impl_LzDecode_l11 r2.1 (wi64 (r1.1 - 125)) 0 r2.2.1 r2.2.2 out) <|
        sif (d_bad) (some (bs [], false)) (some (toB out, true))) <|
      sif (d_bad) (some (bs [], false)) (some (toB out, true))) := seml_eq (f := 11) (m := 0) (l := 3) (by kernel_rfl)
theorem impl_LzDecode_l11_eq (distance : Int) (t41 : Int) (t42 : Int) (d_rest : ByteArray) (d_bad : Bool) (out : List Int) :
    impl_LzDecode_l11 distance t41 t42 d_rest d_bad out = (
      sif (decide (t42 < t41))
       (sif (lt3 0 (wi64 ((out.length : Int) - distance)) (out.length : Int))
         (sbind (out[(wi64 ((out.length : Int) - distance)).toNat]?) fun x1 =>
          sif (room (out.length + 1) 1) (impl_LzDecode_l11 distance t41 (wi64 (t42 + 1)) d_rest d_bad (out ++ [x1])) (none)) (none)) <|
      sif (decide ((out.length : Int) > 1100)) (some (bs [], false)) (impl_LzDecode_l3 d_rest d_bad out)) := seml_eq (f := 11) (m := 0) (l := 11) (by kernel_rfl)
theorem impl_decoder_byte_w_eq (d_rest : ByteArray) (d_bad : Bool) :
    impl_decoder_byte_w d_rest d_bad = (
      sbind (impl_decoder_number_w 1 d_rest d_bad) fun r1 =>
      some (r1.1, r1.2.1, r1.2.2)) := sem_eq (f := 46) (m := 0) rfl (by kernel_rfl)
theorem impl_decoder_number_w_eq (size : Int) (d_rest : ByteArray) (d_bad : Bool) :
    impl_decoder_number_w size d_rest d_bad = (
      sbind (impl_decoder_take_w size d_rest d_bad) fun r1 =>
      sbind (impl_getBits r1.1) fun r2 =>
      some (wi64 r2, r1.2.1, r1.2.2)) := sem_eq (f := 48) (m := 0) rfl (by kernel_rfl)
theorem impl_decoder_take_w_eq (n : Int) (d_rest : ByteArray) (d_bad : Bool) :
    impl_decoder_take_w n d_rest d_bad = (
      sbind (impl_cut d_rest 0 n) fun r1 =>
      sif (!r1.2) (some (bs [], d_rest, true)) <|
      sif (le3 0 n (d_rest.size : Int)) (some (r1.1, d_rest.extract n.toNat d_rest.size, d_bad)) (none)) := sem_eq (f := 47) (m := 0) rfl (by kernel_rfl)
theorem impl_cut_eq (s : ByteArray) (at_ : Int) (size : Int) :
    impl_cut s at_ size = (
      sif (decide (size < 0)) (some (bs [], false)) <|
      sbind (impl_within at_ 0 (wi64 ((s.size : Int) - size))) fun r1 =>
      sif (!r1) (some (bs [], false)) <|
      sif (le3 0 (wi64 (at_ + size)) (s.size : Int))
       (sif (le3 0 at_ (wi64 (at_ + size))) (some (s.extract at_.toNat ((wi64 (at_ + size)).toNat), true)) (none)) (none)) := sem_eq (f := 104) (m := 0) rfl (by kernel_rfl)
theorem impl_within_eq (n : Int) (low : Int) (high : Int) :
    impl_within n low high = (
      sif (decide (n ≥ low)) (some (decide (n ≤ high))) (some false)) := sem_eq (f := 49) (m := 0) rfl (by kernel_rfl)
theorem impl_getBits_eq (s : ByteArray) :
    impl_getBits s = (
      impl_getBits_l3 s 0 (s.size : Int) 0) := sem_eq (f := 105) (m := 0) rfl (by kernel_rfl)
theorem impl_getBits_l3_eq (s : ByteArray) (n : Int) (t6 : Int) (t7 : Int) :
    impl_getBits_l3 s n t6 t7 = (
      sif (decide (t7 < t6))
       (sbind (bidx s t7) fun b1 =>
        sif (decide (wi64 (8 * t7) < 0)) (none) <|
        impl_getBits_l3 s (bits .or .u64 n (wu64 ((wu64 b1) * 2 ^ (min (wi64 (8 * t7)).toNat 64)))) t6 (wi64 (t7 + 1))) (some n)) := seml_eq (f := 105) (m := 0) (l := 3) (by kernel_rfl)
end Go.Ve.X
