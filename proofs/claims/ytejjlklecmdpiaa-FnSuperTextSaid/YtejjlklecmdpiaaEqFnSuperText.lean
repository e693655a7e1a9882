/- The equations of the functions that 'FnSuperText' reaches (printed by plan.py): what each answers. No condition. -/
import Derived.Test.YtejjlklecmdpiaaEnvFnSuperText
namespace Go.Ve.X
open Go.Proofs Go.Ve Go.RowKit
set_option linter.unusedVariables false
set_option maxRecDepth 100000
theorem laws_FnSuperText_eq (code : List Int) (more : List Int) :
    laws_FnSuperText code more = (
      sbind (laws_b10Long code) fun r1 =>
      sif (r1) (some true) <|
      sbind (laws_b10Long more) fun r2 =>
      sif (r2) (some true) <|
      sbind (spec_DrawEncodeSuper code) fun r3 =>
      sbind (spec_ValidSuper r3.1 r3.2.1 r3.2.2.1 r3.2.2.2) fun r4 =>
      sif (r4)
       (sbind (impl_EncodeSuper r3.1 r3.2.1 r3.2.2.1 r3.2.2.2) fun r5 =>
        sbind (impl_DecodeSuper r5) fun r6 =>
        sif (!r6.2.2.2.2) (some false) <|
        sif (!((r6.1 == r3.1) && ((r6.2.1 == r3.2.1) && ((r6.2.2.1 == r3.2.2.1) && (r6.2.2.2.1 == r3.2.2.2))))) (some false) <|
        sbind (spec_DrawDecodeSuper more) fun r7 =>
        sbind (impl_DecodeSuper r7) fun r8 =>
        sif (!r8.2.2.2.2) (some true) <|
        sbind (spec_ValidSuper r8.1 r8.2.1 r8.2.2.1 r8.2.2.2.1) fun r9 =>
        sif (r9)
         (sbind (impl_EncodeSuper r8.1 r8.2.1 r8.2.2.1 r8.2.2.2.1) fun r10 =>
          some (seq r10 r7)) (some false)) <|
      sbind (spec_DrawDecodeSuper more) fun r5 =>
      sbind (impl_DecodeSuper r5) fun r6 =>
      sif (!r6.2.2.2.2) (some true) <|
      sbind (spec_ValidSuper r6.1 r6.2.1 r6.2.2.1 r6.2.2.2.1) fun r7 =>
      sif (r7)
       (sbind (impl_EncodeSuper r6.1 r6.2.1 r6.2.2.1 r6.2.2.2.1) fun r8 =>
        some (seq r8 r5)) (some false)) := sem_eq (f := 7) (m := 0) rfl (by kernel_rfl)
theorem laws_b10Long_eq (code : List Int) :
    laws_b10Long code = (
      some (decide ((code.length : Int) > 1048576))) := sem_eq (f := 9) (m := 0) rfl (by kernel_rfl)
theorem spec_DrawEncodeSuper_eq (code : List Int) :
    spec_DrawEncodeSuper code = (
      sbind (spec_l00From code) fun r1 =>
      sbind (spec_l10Draw_wd 5 r1.1 r1.2.1 r1.2.2) fun r2 =>
      some (r2.1, r2.2.1, r2.2.2.1, r2.2.2.2.1)) := sem_eq (f := 36) (m := 0) rfl (by kernel_rfl)
theorem spec_l00From_eq (code : List Int) :
    spec_l00From code = (
      some (code, 0, 0)) := sem_eq (f := 41) (m := 0) rfl (by kernel_rfl)
theorem spec_l10Draw_wd_eq (n : Int) (s_code : List Int) (s_at : Int) (s_seed : Int) :
    spec_l10Draw_wd n s_code s_at s_seed = (
      sbind (spec_l00Src_among_wdd ([16, 40, 64, 256, 20] : List Int) s_code s_at s_seed) fun r1 =>
      sbind (spec_l00Src_pick_wd 5 r1.2.1 r1.2.2.1 r1.2.2.2) fun r2 =>
      sbind (spec_l00Src_pick_wd 30 r2.2.1 r2.2.2.1 r2.2.2.2) fun r3 =>
      sbind (spec_l00Src_pick_wd 9 r3.2.1 r3.2.2.1 r3.2.2.2) fun r4 =>
      sbind (spec_l00Src_one_wd 6 r4.2.1 r4.2.2.1 r4.2.2.2) fun r5 =>
      sif (r5.1)
       (sbind (spec_l00Src_one_wd n r5.2.1 r5.2.2.1 r5.2.2.2) fun r6 =>
        sif (r6.1)
         (sbind (spec_l00Src_pick_wd 4 r6.2.1 r6.2.2.1 r6.2.2.2) fun r7 =>
          sif ((r7.1 == 0))
           (sbind (spec_l00Src_among_wdd ([15, 257, 0, 16] : List Int) r7.2.1 r7.2.2.1 r7.2.2.2) fun r8 =>
            some (r8.1, wi64 (8 + r2.1), 1000000000000, r4.1, r8.2.1, r8.2.2.1, r8.2.2.2)) <|
          sif ((r7.1 == 1))
           (sbind (spec_l00Src_among_wdd [7, 65, wi64 (r1.1 - 4), wi64 (r1.1 - 3)] r7.2.1 r7.2.2.1 r7.2.2.2) fun r8 =>
            some (r1.1, r8.1, 1000000000000, r4.1, r8.2.1, r8.2.2.1, r8.2.2.2)) <|
          sif ((r7.1 == 2))
           (sbind (spec_l00Src_among_wdd ([(-1), 1000000000001] : List Int) r7.2.1 r7.2.2.1 r7.2.2.2) fun r8 =>
            some (r1.1, wi64 (8 + r2.1), r8.1, r4.1, r8.2.1, r8.2.2.1, r8.2.2.2)) <|
          sbind (spec_l00Src_among_wdd ([(-1), 1000000000001, 1000000000000] : List Int) r7.2.1 r7.2.2.1 r7.2.2.2) fun r8 =>
          some (r1.1, wi64 (8 + r2.1), 1000000000000, r8.1, r8.2.1, r8.2.2.1, r8.2.2.2)) <|
        some (r1.1, wi64 (8 + r2.1), 1000000000000, r4.1, r6.2.1, r6.2.2.1, r6.2.2.2)) <|
      sbind (spec_l00Src_one_wd n r5.2.1 r5.2.2.1 r5.2.2.2) fun r6 =>
      sif (r6.1)
       (sbind (spec_l00Src_pick_wd 4 r6.2.1 r6.2.2.1 r6.2.2.2) fun r7 =>
        sif ((r7.1 == 0))
         (sbind (spec_l00Src_among_wdd ([15, 257, 0, 16] : List Int) r7.2.1 r7.2.2.1 r7.2.2.2) fun r8 =>
          some (r8.1, wi64 (8 + r2.1), r3.1, r4.1, r8.2.1, r8.2.2.1, r8.2.2.2)) <|
        sif ((r7.1 == 1))
         (sbind (spec_l00Src_among_wdd [7, 65, wi64 (r1.1 - 4), wi64 (r1.1 - 3)] r7.2.1 r7.2.2.1 r7.2.2.2) fun r8 =>
          some (r1.1, r8.1, r3.1, r4.1, r8.2.1, r8.2.2.1, r8.2.2.2)) <|
        sif ((r7.1 == 2))
         (sbind (spec_l00Src_among_wdd ([(-1), 1000000000001] : List Int) r7.2.1 r7.2.2.1 r7.2.2.2) fun r8 =>
          some (r1.1, wi64 (8 + r2.1), r8.1, r4.1, r8.2.1, r8.2.2.1, r8.2.2.2)) <|
        sbind (spec_l00Src_among_wdd ([(-1), 1000000000001, 1000000000000] : List Int) r7.2.1 r7.2.2.1 r7.2.2.2) fun r8 =>
        some (r1.1, wi64 (8 + r2.1), r3.1, r8.1, r8.2.1, r8.2.2.1, r8.2.2.2)) <|
      some (r1.1, wi64 (8 + r2.1), r3.1, r4.1, r6.2.1, r6.2.2.1, r6.2.2.2)) := sem_eq (f := 92) (m := 0) rfl (by kernel_rfl)
theorem spec_l00Src_among_wdd_eq (list : List Int) (s_code : List Int) (s_at : Int) (s_seed : Int) :
    spec_l00Src_among_wdd list s_code s_at s_seed = (
      sbind (spec_l00Src_pick_wd (list.length : Int) s_code s_at s_seed) fun r1 =>
      sbind (idx list r1.1) fun x2 =>
      some (x2, r1.2.1, r1.2.2.1, r1.2.2.2)) := sem_eq (f := 97) (m := 0) rfl (by kernel_rfl)
theorem spec_l00Src_pick_wd_eq (n : Int) (s_code : List Int) (s_at : Int) (s_seed : Int) :
    spec_l00Src_pick_wd n s_code s_at s_seed = (
      sif (decide (n ≤ 1)) (some (0, s_code, s_at, s_seed)) <|
      sbind (spec_l00Src_next_wd s_code s_at s_seed) fun r1 =>
      sif (decide (n > 200))
       (sbind (spec_l00Src_next_wd r1.2.1 r1.2.2.1 r1.2.2.2) fun r2 =>
        sif (decide (n = 0)) (none) <|
        some (Int.tmod (wi64 ((wi64 (r1.1 * 256)) + r2.1)) n, r2.2.1, r2.2.2.1, r2.2.2.2)) <|
      sif (decide (n = 0)) (none) (some (Int.tmod r1.1 n, r1.2.1, r1.2.2.1, r1.2.2.2))) := sem_eq (f := 93) (m := 0) rfl (by kernel_rfl)
theorem spec_l00Src_next_wd_eq (s_code : List Int) (s_at : Int) (s_seed : Int) :
    spec_l00Src_next_wd s_code s_at s_seed = (
      sif (decide (s_at < (s_code.length : Int)))
       (sbind (idx s_code s_at) fun x1 =>
        sif (decide (wi64 (s_at + 1) ≤ (s_code.length : Int)))
         (some (wi64 x1, s_code, wi64 (s_at + 1), wu64 ((wu64 ((wu64 (s_seed * 6364136223846793005)) + (wu64 (wi64 x1)))) + 1442695040888963407))) <|
        some (wi64 (bits .and .u64 (Int.fdiv (wu64 ((wu64 ((wu64 (s_seed * 6364136223846793005)) + (wu64 (wi64 x1)))) + 1442695040888963407)) (2 ^ 40)) 255), s_code, wi64 (s_at + 1), wu64 ((wu64 ((wu64 (s_seed * 6364136223846793005)) + (wu64 (wi64 x1)))) + 1442695040888963407))) <|
      sif (decide (wi64 (s_at + 1) ≤ (s_code.length : Int)))
       (some (0, s_code, wi64 (s_at + 1), wu64 ((wu64 ((wu64 (s_seed * 6364136223846793005)) + 0)) + 1442695040888963407))) <|
      some (wi64 (bits .and .u64 (Int.fdiv (wu64 ((wu64 ((wu64 (s_seed * 6364136223846793005)) + 0)) + 1442695040888963407)) (2 ^ 40)) 255), s_code, wi64 (s_at + 1), wu64 ((wu64 ((wu64 (s_seed * 6364136223846793005)) + 0)) + 1442695040888963407))) := sem_eq (f := 94) (m := 0) rfl (by kernel_rfl)
theorem spec_l00Src_one_wd_eq (n : Int) (s_code : List Int) (s_at : Int) (s_seed : Int) :
    spec_l00Src_one_wd n s_code s_at s_seed = (
      sbind (spec_l00Src_pick_wd n s_code s_at s_seed) fun r1 =>
      some ((r1.1 == 0), r1.2.1, r1.2.2.1, r1.2.2.2)) := sem_eq (f := 43) (m := 0) rfl (by kernel_rfl)
theorem spec_ValidSuper_eq (s_Blocks : Int) (s_Log : Int) (s_Seq : Int) (s_Turn : Int) :
    spec_ValidSuper s_Blocks s_Log s_Seq s_Turn = (
      sbind (spec_l00In s_Blocks 16 256) fun r1 =>
      sif (r1)
       (sbind (spec_l00In s_Log 8 64) fun r2 =>
        sif (r2)
         (sif (decide (s_Log ≤ wi64 (s_Blocks - 4)))
           (sbind (spec_l00In s_Seq 0 1000000000000) fun r3 =>
            sif (r3)
             (sbind (spec_l00In s_Turn 0 1000000000000) fun r4 =>
              some r4) (some false)) (some false)) (some false)) (some false)) := sem_eq (f := 37) (m := 0) rfl (by kernel_rfl)
theorem spec_l00In_eq (n : Int) (low : Int) (high : Int) :
    spec_l00In n low high = (
      sif (decide (n ≥ low)) (some (decide (n ≤ high))) (some false)) := sem_eq (f := 59) (m := 0) rfl (by kernel_rfl)
theorem impl_EncodeSuper_eq (s_Blocks : Int) (s_Log : Int) (s_Seq : Int) (s_Turn : Int) :
    impl_EncodeSuper s_Blocks s_Log s_Seq s_Turn = (
      sbind (impl_ValidSuper s_Blocks s_Log s_Seq s_Turn) fun r1 =>
      sif (!r1) (some (bs [])) <|
      sbind (impl_Super_encode s_Blocks s_Log s_Seq s_Turn) fun r2 =>
      some r2) := sem_eq (f := 38) (m := 0) rfl (by kernel_rfl)
theorem impl_ValidSuper_eq (s_Blocks : Int) (s_Log : Int) (s_Seq : Int) (s_Turn : Int) :
    impl_ValidSuper s_Blocks s_Log s_Seq s_Turn = (
      sbind (impl_within s_Blocks 16 256) fun r1 =>
      sif (r1)
       (sbind (impl_within s_Log 8 (if wi64 (s_Blocks - 4) < 64 then wi64 (s_Blocks - 4) else 64)) fun r2 =>
        sif (r2)
         (sbind (impl_within s_Seq 0 1000000000000) fun r3 =>
          sif (r3)
           (sbind (impl_within s_Turn 0 1000000000000) fun r4 =>
            some r4) (some false)) (some false)) (some false)) := sem_eq (f := 73) (m := 0) rfl (by kernel_rfl)
theorem impl_within_eq (n : Int) (low : Int) (high : Int) :
    impl_within n low high = (
      sif (decide (n ≥ low)) (some (decide (n ≤ high))) (some false)) := sem_eq (f := 63) (m := 0) rfl (by kernel_rfl)
theorem impl_Super_encode_eq (s_Blocks : Int) (s_Log : Int) (s_Seq : Int) (s_Turn : Int) :
    impl_Super_encode s_Blocks s_Log s_Seq s_Turn = (
      sbind (impl_putBytes 1 1) fun r1 =>
      sif (joins (bs [65, 82, 82, 83]) r1)
       (sbind (impl_putBytes s_Blocks 2) fun r2 =>
        sif (joins ((bs [65, 82, 82, 83]) ++ r1) r2)
         (sbind (impl_putBytes s_Log 2) fun r3 =>
          sif (joins (((bs [65, 82, 82, 83]) ++ r1) ++ r2) r3)
           (sbind (impl_putBytes s_Seq 8) fun r4 =>
            sif (joins ((((bs [65, 82, 82, 83]) ++ r1) ++ r2) ++ r3) r4)
             (sbind (impl_putBytes s_Turn 8) fun r5 =>
              sif (joins (((((bs [65, 82, 82, 83]) ++ r1) ++ r2) ++ r3) ++ r4) r5)
               (sbind (impl_padded ((((((bs [65, 82, 82, 83]) ++ r1) ++ r2) ++ r3) ++ r4) ++ r5) 32) fun r6 =>
                sif (joins r6 r6) (some (r6 ++ r6)) (none)) (none)) (none)) (none)) (none)) (none)) := sem_eq (f := 74) (m := 0) rfl (by kernel_rfl)
theorem impl_putBytes_eq (n : Int) (size : Int) :
    impl_putBytes n size = (
      sif (le3 0 size size && room size.toNat 1)
       (impl_putBytes_l3 n ((List.replicate size.toNat (0 : Int)).length : Int) 0 (List.replicate size.toNat (0 : Int))) (none)) := sem_eq (f := 115) (m := 0) rfl (by kernel_rfl)
theorem impl_putBytes_l3_eq (n : Int) (t10 : Int) (t11 : Int) (out : List Int) :
    impl_putBytes_l3 n t10 t11 out = (
      sif (decide (t11 < t10))
       (sif (decide (wi64 (8 * t11) < 0)) (none) <|
        sif (lt3 0 t11 (out.length : Int))
         (impl_putBytes_l3 n t10 (wi64 (t11 + 1)) (out.set t11.toNat (wu8 (Int.fdiv n (2 ^ (min (wi64 (8 * t11)).toNat 64)))))) (none)) (some (toB out))) := seml_eq (f := 115) (m := 0) (l := 3) (by kernel_rfl)
theorem impl_padded_eq (s : ByteArray) (n : Int) :
    impl_padded s n = (
      sbind (impl_zeros (wi64 (n - (s.size : Int)))) fun r1 =>
      sif (joins s r1) (some (s ++ r1)) (none)) := sem_eq (f := 116) (m := 0) rfl (by kernel_rfl)
theorem impl_zeros_eq (n : Int) :
    impl_zeros n = (
      sbind (strings_Repeat (bs [0]) n) fun r1 =>
      some r1) := sem_eq (f := 125) (m := 0) rfl (by kernel_rfl)
theorem strings_Repeat_eq (x0 : ByteArray) (x1 : Int) : strings_Repeat x0 x1 = repeatB x0 x1 := ext_eq (E := E) (f := 126) (m := 0) (g := fun (d : ByteArray × Int) => (repeatB (d.1) (d.2) : Option (ByteArray))) (by kernel_rfl) (x0, x1)
theorem impl_DecodeSuper_eq (block : ByteArray) :
    impl_DecodeSuper block = (
      sbind (impl_isBlock block) fun r1 =>
      sif (!r1) (some (0, 0, 0, 0, false)) <|
      sif (le3 0 5 (block.size : Int))
       (sbind (impl_decoder_number_w 2 (block.extract 5 block.size) false) fun r2 =>
        sbind (impl_decoder_number_w 2 r2.2.1 r2.2.2) fun r3 =>
        sbind (impl_decoder_number_w 8 r3.2.1 r3.2.2) fun r4 =>
        sbind (impl_decoder_number_w 8 r4.2.1 r4.2.2) fun r5 =>
        sbind (impl_ValidSuper r2.1 r3.1 r4.1 r5.1) fun r6 =>
        sif (!r6) (some (0, 0, 0, 0, false)) <|
        sbind (impl_Super_encode r2.1 r3.1 r4.1 r5.1) fun r7 =>
        sif (!seq r7 block) (some (0, 0, 0, 0, false)) (some (r2.1, r3.1, r4.1, r5.1, true))) (none)) := sem_eq (f := 23) (m := 0) rfl (by kernel_rfl)
theorem impl_isBlock_eq (s : ByteArray) :
    impl_isBlock s = (
      some ((s.size : Int) == 64)) := sem_eq (f := 49) (m := 0) rfl (by kernel_rfl)
theorem impl_decoder_number_w_eq (size : Int) (d_rest : ByteArray) (d_bad : Bool) :
    impl_decoder_number_w size d_rest d_bad = (
      sbind (impl_decoder_take_w size d_rest d_bad) fun r1 =>
      sbind (impl_getBits r1.1) fun r2 =>
      some (wi64 r2, r1.2.1, r1.2.2)) := sem_eq (f := 72) (m := 0) rfl (by kernel_rfl)
theorem impl_decoder_take_w_eq (n : Int) (d_rest : ByteArray) (d_bad : Bool) :
    impl_decoder_take_w n d_rest d_bad = (
      sbind (impl_cut d_rest 0 n) fun r1 =>
      sif (!r1.2) (some (bs [], d_rest, true)) <|
      sif (le3 0 n (d_rest.size : Int)) (some (r1.1, d_rest.extract n.toNat d_rest.size, d_bad)) (none)) := sem_eq (f := 114) (m := 0) rfl (by kernel_rfl)
theorem impl_cut_eq (s : ByteArray) (at_ : Int) (size : Int) :
    impl_cut s at_ size = (
      sif (decide (size < 0)) (some (bs [], false)) <|
      sbind (impl_within at_ 0 (wi64 ((s.size : Int) - size))) fun r1 =>
      sif (!r1) (some (bs [], false)) <|
      sif (le3 0 (wi64 (at_ + size)) (s.size : Int))
       (sif (le3 0 at_ (wi64 (at_ + size))) (some (s.extract at_.toNat ((wi64 (at_ + size)).toNat), true)) (none)) (none)) := sem_eq (f := 124) (m := 0) rfl (by kernel_rfl)
theorem impl_getBits_eq (s : ByteArray) :
    impl_getBits s = (
      impl_getBits_l3 s 0 (s.size : Int) 0) := sem_eq (f := 113) (m := 0) rfl (by kernel_rfl)
theorem impl_getBits_l3_eq (s : ByteArray) (n : Int) (t6 : Int) (t7 : Int) :
    impl_getBits_l3 s n t6 t7 = (
      sif (decide (t7 < t6))
       (sbind (bidx s t7) fun b1 =>
        sif (decide (wi64 (8 * t7) < 0)) (none) <|
        impl_getBits_l3 s (bits .or .u64 n (wu64 ((wu64 b1) * 2 ^ (min (wi64 (8 * t7)).toNat 64)))) t6 (wi64 (t7 + 1))) (some n)) := seml_eq (f := 113) (m := 0) (l := 3) (by kernel_rfl)
theorem spec_DrawDecodeSuper_eq (code : List Int) :
    spec_DrawDecodeSuper code = (
      sbind (spec_l00From code) fun r1 =>
      sbind (spec_l10Draw_wd 6 r1.1 r1.2.1 r1.2.2) fun r2 =>
      sbind (spec_l10Encode r2.1 r2.2.1 r2.2.2.1 r2.2.2.2.1) fun r3 =>
      sbind (spec_l00Src_one_wd 2 r2.2.2.2.2.1 r2.2.2.2.2.2.1 r2.2.2.2.2.2.2) fun r4 =>
      sif (r4.1) (some r3) <|
      sbind (spec_l00Src_pick_wd (r3.size : Int) r4.2.1 r4.2.2.1 r4.2.2.2) fun r5 =>
      sbind (spec_l00Src_one_wd 4 r5.2.1 r5.2.2.1 r5.2.2.2) fun r6 =>
      sif (r6.1) (sif (le3 0 r5.1 (r3.size : Int)) (some (r3.extract 0 r5.1.toNat)) (none)) <|
      sbind (spec_l00Src_next_wd r6.2.1 r6.2.2.1 r6.2.2.2) fun r7 =>
      sif (le3 0 r5.1 (r3.size : Int))
       (sif (joins (r3.extract 0 r5.1.toNat) (toB [wu8 r7.1]))
         (sif (le3 0 (wi64 (r5.1 + 1)) (r3.size : Int))
           (sif (joins ((r3.extract 0 r5.1.toNat) ++ (toB [wu8 r7.1])) (r3.extract ((wi64 (r5.1 + 1)).toNat) r3.size))
             (sbind (spec_l00Src_one_wd 2 r7.2.1 r7.2.2.1 r7.2.2.2) fun r8 =>
              sif (r8.1)
               (sif (le3 0 (Int.tmod (wi64 (r5.1 + 32)) 64) ((((r3.extract 0 r5.1.toNat) ++ (toB [wu8 r7.1])) ++ (r3.extract ((wi64 (r5.1 + 1)).toNat) r3.size)).size : Int))
                 (sif (joins ((((r3.extract 0 r5.1.toNat) ++ (toB [wu8 r7.1])) ++ (r3.extract ((wi64 (r5.1 + 1)).toNat) r3.size)).extract 0 ((Int.tmod (wi64 (r5.1 + 32)) 64).toNat)) (toB [wu8 r7.1]))
                   (sif (le3 0 (wi64 ((Int.tmod (wi64 (r5.1 + 32)) 64) + 1)) ((((r3.extract 0 r5.1.toNat) ++ (toB [wu8 r7.1])) ++ (r3.extract ((wi64 (r5.1 + 1)).toNat) r3.size)).size : Int))
                     (sif (joins (((((r3.extract 0 r5.1.toNat) ++ (toB [wu8 r7.1])) ++ (r3.extract ((wi64 (r5.1 + 1)).toNat) r3.size)).extract 0 ((Int.tmod (wi64 (r5.1 + 32)) 64).toNat)) ++ (toB [wu8 r7.1])) ((((r3.extract 0 r5.1.toNat) ++ (toB [wu8 r7.1])) ++ (r3.extract ((wi64 (r5.1 + 1)).toNat) r3.size)).extract ((wi64 ((Int.tmod (wi64 (r5.1 + 32)) 64) + 1)).toNat) ((((r3.extract 0 r5.1.toNat) ++ (toB [wu8 r7.1])) ++ (r3.extract ((wi64 (r5.1 + 1)).toNat) r3.size)).size)))
                       (some ((((((r3.extract 0 r5.1.toNat) ++ (toB [wu8 r7.1])) ++ (r3.extract ((wi64 (r5.1 + 1)).toNat) r3.size)).extract 0 ((Int.tmod (wi64 (r5.1 + 32)) 64).toNat)) ++ (toB [wu8 r7.1])) ++ ((((r3.extract 0 r5.1.toNat) ++ (toB [wu8 r7.1])) ++ (r3.extract ((wi64 (r5.1 + 1)).toNat) r3.size)).extract ((wi64 ((Int.tmod (wi64 (r5.1 + 32)) 64) + 1)).toNat) ((((r3.extract 0 r5.1.toNat) ++ (toB [wu8 r7.1])) ++ (r3.extract ((wi64 (r5.1 + 1)).toNat) r3.size)).size)))) (none)) (none)) (none)) (none)) <|
              some (((r3.extract 0 r5.1.toNat) ++ (toB [wu8 r7.1])) ++ (r3.extract ((wi64 (r5.1 + 1)).toNat) r3.size))) (none)) (none)) (none)) (none)) := sem_eq (f := 39) (m := 0) rfl (by kernel_rfl)
theorem spec_l10Encode_eq (s_Blocks : Int) (s_Log : Int) (s_Seq : Int) (s_Turn : Int) :
    spec_l10Encode s_Blocks s_Log s_Seq s_Turn = (
      sbind (spec_l01Bytes 1 1) fun r1 =>
      sif (joins (bs [65, 82, 82, 83]) r1)
       (sbind (spec_l01Bytes s_Blocks 2) fun r2 =>
        sif (joins ((bs [65, 82, 82, 83]) ++ r1) r2)
         (sbind (spec_l01Bytes s_Log 2) fun r3 =>
          sif (joins (((bs [65, 82, 82, 83]) ++ r1) ++ r2) r3)
           (sbind (spec_l01Bytes s_Seq 8) fun r4 =>
            sif (joins ((((bs [65, 82, 82, 83]) ++ r1) ++ r2) ++ r3) r4)
             (sbind (spec_l01Bytes s_Turn 8) fun r5 =>
              sif (joins (((((bs [65, 82, 82, 83]) ++ r1) ++ r2) ++ r3) ++ r4) r5)
               (sbind (spec_l01Pad ((((((bs [65, 82, 82, 83]) ++ r1) ++ r2) ++ r3) ++ r4) ++ r5) 32) fun r6 =>
                sif (joins r6 r6) (some (r6 ++ r6)) (none)) (none)) (none)) (none)) (none)) (none)) := sem_eq (f := 71) (m := 0) rfl (by kernel_rfl)
theorem spec_l01Bytes_eq (n : Int) (size : Int) :
    spec_l01Bytes n size = (
      spec_l01Bytes_l3 n size 0 ([] : List Int)) := sem_eq (f := 112) (m := 0) rfl (by kernel_rfl)
theorem spec_l01Bytes_l3_eq (n : Int) (size : Int) (k : Int) (out : List Int) :
    spec_l01Bytes_l3 n size k out = (
      sif (decide (k < size))
       (sif (decide (wu64 (8 * (wu64 k)) < 0)) (none) <|
        sif (room (out.length + 1) 1)
         (spec_l01Bytes_l3 n size (wi64 (k + 1)) (out ++ [wu8 (bits .and .i64 (Int.fdiv n (2 ^ (min (wu64 (8 * (wu64 k))).toNat 64))) 255)])) (none)) (some (toB out))) := seml_eq (f := 112) (m := 0) (l := 3) (by kernel_rfl)
theorem spec_l01Pad_eq (s : ByteArray) (n : Int) :
    spec_l01Pad s n = (
      sif (decide ((s.size : Int) ≥ n)) (some s) <|
      sif (le3 0 (wi64 (n - (s.size : Int))) (wi64 (n - (s.size : Int))) && room ((wi64 (n - (s.size : Int))).toNat) 1)
       (sif (joins s (toB (List.replicate ((wi64 (n - (s.size : Int))).toNat) (0 : Int)))) (some (s ++ (toB (List.replicate ((wi64 (n - (s.size : Int))).toNat) (0 : Int))))) (none)) (none)) := sem_eq (f := 98) (m := 0) rfl (by kernel_rfl)
end Go.Ve.X
