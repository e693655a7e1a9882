/- The equations of the functions that 'FnExactDecodeSuper' reaches (printed by plan.py): what each answers. No condition. -/
import Derived.Test.YtejjlklecmdpiaaEnvFnExactDecodeSuper
namespace Go.Ve.X
open Go.Proofs Go.Ve Go.RowKit
set_option linter.unusedVariables false
set_option maxRecDepth 100000
theorem laws_FnExactDecodeSuper_eq (aBlock : ByteArray) :
    laws_FnExactDecodeSuper aBlock = (
      sif (decide ((aBlock.size : Int) > 1048576)) (some true) <|
      sbind (spec_DecodeSuper aBlock) fun r1 =>
      sbind (impl_DecodeSuper aBlock) fun r2 =>
      sbind (laws_eqSuper r2.1 r2.2.1 r2.2.2.1 r2.2.2.2.1 r1.1 r1.2.1 r1.2.2.1 r1.2.2.2.1) fun r3 =>
      sif (!r3) (some false) <|
      sif (!(r2.2.2.2.2 == r1.2.2.2.2)) (some false) (some true)) := sem_eq (f := 5) (m := 0) rfl (by kernel_rfl)
theorem spec_DecodeSuper_eq (block : ByteArray) :
    spec_DecodeSuper block = (
      sif (((block.size : Int) != 64)) (some (0, 0, 0, 0, false)) (spec_DecodeSuper_l6 block true 0 0 0 0 0 0 0 0 0)) := sem_eq (f := 22) (m := 0) rfl (by kernel_rfl)
theorem spec_DecodeSuper_l6_eq (block : ByteArray) (ok : Bool) (i : Int) (t2_Blocks : Int) (t2_Log : Int) (t2_Seq : Int) (t2_Turn : Int) (s_Blocks : Int) (s_Log : Int) (s_Seq : Int) (s_Turn : Int) :
    spec_DecodeSuper_l6 block ok i t2_Blocks t2_Log t2_Seq t2_Turn s_Blocks s_Log s_Seq s_Turn = (
      sif (decide (i < 4))
       (sif (lt3 0 i 4)
         (sbind (([5, 7, 9, 17] : List Int)[i.toNat]?) fun x1 =>
          sif (lt3 0 i 4)
           (sbind (([2, 2, 8, 8] : List Int)[i.toNat]?) fun x2 =>
            sbind (spec_l01GetUint block x1 x2) fun r3 =>
            sif (ok)
             (sif ((i == 0))
               (spec_DecodeSuper_l6 block r3.2 (wi64 (i + 1)) t2_Blocks t2_Log t2_Seq t2_Turn r3.1 s_Log s_Seq s_Turn) <|
              sif ((i == 1))
               (spec_DecodeSuper_l6 block r3.2 (wi64 (i + 1)) t2_Blocks t2_Log t2_Seq t2_Turn s_Blocks r3.1 s_Seq s_Turn) <|
              sif ((i == 2))
               (spec_DecodeSuper_l6 block r3.2 (wi64 (i + 1)) t2_Blocks t2_Log t2_Seq t2_Turn s_Blocks s_Log r3.1 s_Turn) <|
              spec_DecodeSuper_l6 block r3.2 (wi64 (i + 1)) t2_Blocks t2_Log t2_Seq t2_Turn s_Blocks s_Log s_Seq r3.1) <|
            sif ((i == 0))
             (spec_DecodeSuper_l6 block false (wi64 (i + 1)) t2_Blocks t2_Log t2_Seq t2_Turn r3.1 s_Log s_Seq s_Turn) <|
            sif ((i == 1))
             (spec_DecodeSuper_l6 block false (wi64 (i + 1)) t2_Blocks t2_Log t2_Seq t2_Turn s_Blocks r3.1 s_Seq s_Turn) <|
            sif ((i == 2))
             (spec_DecodeSuper_l6 block false (wi64 (i + 1)) t2_Blocks t2_Log t2_Seq t2_Turn s_Blocks s_Log r3.1 s_Turn) <|
            spec_DecodeSuper_l6 block false (wi64 (i + 1)) t2_Blocks t2_Log t2_Seq t2_Turn s_Blocks s_Log s_Seq r3.1) (none)) (none)) <|
      sif (!ok) (some (0, 0, 0, 0, false)) <|
      sbind (spec_ValidSuper s_Blocks s_Log s_Seq s_Turn) fun r1 =>
      sif (!r1) (some (0, 0, 0, 0, false)) <|
      sbind (spec_l10Encode s_Blocks s_Log s_Seq s_Turn) fun r2 =>
      sif (!seq r2 block) (some (0, 0, 0, 0, false)) (some (s_Blocks, s_Log, s_Seq, s_Turn, true))) := seml_eq (f := 22) (m := 0) (l := 6) (by kernel_rfl)
theorem spec_l01GetUint_eq (s : ByteArray) (at_ : Int) (size : Int) :
    spec_l01GetUint s at_ size = (
      sbind (spec_l01Within s at_ size) fun r1 =>
      sif (!r1) (some (0, false)) <|
      sif ((size == 8))
       (sbind (bidx s (wi64 (at_ + 7))) fun b2 =>
        sif (decide (b2 > 127)) (some (0, false)) (spec_l01GetUint_l5 s at_ 0 (wi64 (size - 1)))) (spec_l01GetUint_l5 s at_ 0 (wi64 (size - 1)))) := sem_eq (f := 70) (m := 0) rfl (by kernel_rfl)
theorem spec_l01GetUint_l5_eq (s : ByteArray) (at_ : Int) (n : Int) (k : Int) :
    spec_l01GetUint_l5 s at_ n k = (
      sif (decide (k ≥ 0))
       (sbind (bidx s (wi64 (at_ + k))) fun b1 =>
        spec_l01GetUint_l5 s at_ (wi64 ((wi64 (n * 256)) + (wi64 b1))) (wi64 (k - 1))) (some (n, true))) := seml_eq (f := 70) (m := 0) (l := 5) (by kernel_rfl)
theorem spec_l01Within_eq (s : ByteArray) (at_ : Int) (size : Int) :
    spec_l01Within s at_ size = (
      sbind (spec_l00In size 1 8) fun r1 =>
      sif (r1)
       (sbind (spec_l00In at_ 0 (s.size : Int)) fun r2 =>
        sif (r2) (some (decide (size ≤ wi64 ((s.size : Int) - at_)))) (some false)) (some false)) := sem_eq (f := 111) (m := 0) rfl (by kernel_rfl)
theorem spec_l00In_eq (n : Int) (low : Int) (high : Int) :
    spec_l00In n low high = (
      sif (decide (n ≥ low)) (some (decide (n ≤ high))) (some false)) := sem_eq (f := 59) (m := 0) rfl (by kernel_rfl)
theorem spec_ValidSuper_eq (s_Blocks : Int) (s_Log : Int) (s_Seq : Int) (s_Turn : Int) :
    spec_ValidSuper s_Blocks s_Log s_Seq s_Turn = (
      sbind (spec_l00In s_Blocks 16 256) fun r1 =>
      sif (r1)
       (sbind (spec_l00In s_Log 8 64) fun r2 =>
        sif (r2)
         (sif (decide (s_Log ≤ wi64 (s_Blocks - 4)))
           (sbind (spec_l00In s_Seq 0 1000000000000) fun r3 =>
            sif (r3)
             (sbind (spec_l00In s_Turn 0 1000000000000) fun r4 =>
              some r4) (some false)) (some false)) (some false)) (some false)) := sem_eq (f := 37) (m := 0) rfl (by kernel_rfl)
theorem spec_l10Encode_eq (s_Blocks : Int) (s_Log : Int) (s_Seq : Int) (s_Turn : Int) :
    spec_l10Encode s_Blocks s_Log s_Seq s_Turn = (
      sbind (spec_l01Bytes 1 1) fun r1 =>
      sif (joins (bs [65, 82, 82, 83]) r1)
       (sbind (spec_l01Bytes s_Blocks 2) fun r2 =>
        sif (joins ((bs [65, 82, 82, 83]) ++ r1) r2)
         (sbind (spec_l01Bytes s_Log 2) fun r3 =>
          sif (joins (((bs [65, 82, 82, 83]) ++ r1) ++ r2) r3)
           (sbind (spec_l01Bytes s_Seq 8) fun r4 =>
            sif (joins ((((bs [65, 82, 82, 83]) ++ r1) ++ r2) ++ r3) r4)
             (sbind (spec_l01Bytes s_Turn 8) fun r5 =>
              sif (joins (((((bs [65, 82, 82, 83]) ++ r1) ++ r2) ++ r3) ++ r4) r5)
               (sbind (spec_l01Pad ((((((bs [65, 82, 82, 83]) ++ r1) ++ r2) ++ r3) ++ r4) ++ r5) 32) fun r6 =>
                sif (joins r6 r6) (some (r6 ++ r6)) (none)) (none)) (none)) (none)) (none)) (none)) := sem_eq (f := 71) (m := 0) rfl (by kernel_rfl)
theorem spec_l01Bytes_eq (n : Int) (size : Int) :
    spec_l01Bytes n size = (
      spec_l01Bytes_l3 n size 0 ([] : List Int)) := sem_eq (f := 112) (m := 0) rfl (by kernel_rfl)
theorem spec_l01Bytes_l3_eq (n : Int) (size : Int) (k : Int) (out : List Int) :
    spec_l01Bytes_l3 n size k out = (
      sif (decide (k < size))
       (sif (decide (wu64 (8 * (wu64 k)) < 0)) (none) <|
        sif (room (out.length + 1) 1)
         (spec_l01Bytes_l3 n size (wi64 (k + 1)) (out ++ [wu8 (bits .and .i64 (Int.fdiv n (2 ^ (min (wu64 (8 * (wu64 k))).toNat 64))) 255)])) (none)) (some (toB out))) := seml_eq (f := 112) (m := 0) (l := 3) (by kernel_rfl)
theorem spec_l01Pad_eq (s : ByteArray) (n : Int) :
    spec_l01Pad s n = (
      sif (decide ((s.size : Int) ≥ n)) (some s) <|
      sif (le3 0 (wi64 (n - (s.size : Int))) (wi64 (n - (s.size : Int))) && room ((wi64 (n - (s.size : Int))).toNat) 1)
       (sif (joins s (toB (List.replicate ((wi64 (n - (s.size : Int))).toNat) (0 : Int)))) (some (s ++ (toB (List.replicate ((wi64 (n - (s.size : Int))).toNat) (0 : Int))))) (none)) (none)) := sem_eq (f := 98) (m := 0) rfl (by kernel_rfl)
theorem impl_DecodeSuper_eq (block : ByteArray) :
    impl_DecodeSuper block = (
      sbind (impl_isBlock block) fun r1 =>
      sif (!r1) (some (0, 0, 0, 0, false)) <|
      sif (le3 0 5 (block.size : Int))
       (sbind (impl_decoder_number_w 2 (block.extract 5 block.size) false) fun r2 =>
        sbind (impl_decoder_number_w 2 r2.2.1 r2.2.2) fun r3 =>
        sbind (impl_decoder_number_w 8 r3.2.1 r3.2.2) fun r4 =>
        sbind (impl_decoder_number_w 8 r4.2.1 r4.2.2) fun r5 =>
        sbind (impl_ValidSuper r2.1 r3.1 r4.1 r5.1) fun r6 =>
        sif (!r6) (some (0, 0, 0, 0, false)) <|
        sbind (impl_Super_encode r2.1 r3.1 r4.1 r5.1) fun r7 =>
        sif (!seq r7 block) (some (0, 0, 0, 0, false)) (some (r2.1, r3.1, r4.1, r5.1, true))) (none)) := sem_eq (f := 23) (m := 0) rfl (by kernel_rfl)
theorem impl_isBlock_eq (s : ByteArray) :
    impl_isBlock s = (
      some ((s.size : Int) == 64)) := sem_eq (f := 49) (m := 0) rfl (by kernel_rfl)
theorem impl_decoder_number_w_eq (size : Int) (d_rest : ByteArray) (d_bad : Bool) :
    impl_decoder_number_w size d_rest d_bad = (
      sbind (impl_decoder_take_w size d_rest d_bad) fun r1 =>
      sbind (impl_getBits r1.1) fun r2 =>
      some (wi64 r2, r1.2.1, r1.2.2)) := sem_eq (f := 72) (m := 0) rfl (by kernel_rfl)
theorem impl_decoder_take_w_eq (n : Int) (d_rest : ByteArray) (d_bad : Bool) :
    impl_decoder_take_w n d_rest d_bad = (
      sbind (impl_cut d_rest 0 n) fun r1 =>
      sif (!r1.2) (some (bs [], d_rest, true)) <|
      sif (le3 0 n (d_rest.size : Int)) (some (r1.1, d_rest.extract n.toNat d_rest.size, d_bad)) (none)) := sem_eq (f := 114) (m := 0) rfl (by kernel_rfl)
theorem impl_cut_eq (s : ByteArray) (at_ : Int) (size : Int) :
    impl_cut s at_ size = (
      sif (decide (size < 0)) (some (bs [], false)) <|
      sbind (impl_within at_ 0 (wi64 ((s.size : Int) - size))) fun r1 =>
      sif (!r1) (some (bs [], false)) <|
      sif (le3 0 (wi64 (at_ + size)) (s.size : Int))
       (sif (le3 0 at_ (wi64 (at_ + size))) (some (s.extract at_.toNat ((wi64 (at_ + size)).toNat), true)) (none)) (none)) := sem_eq (f := 124) (m := 0) rfl (by kernel_rfl)
theorem impl_within_eq (n : Int) (low : Int) (high : Int) :
    impl_within n low high = (
      sif (decide (n ≥ low)) (some (decide (n ≤ high))) (some false)) := sem_eq (f := 63) (m := 0) rfl (by kernel_rfl)
theorem impl_getBits_eq (s : ByteArray) :
    impl_getBits s = (
      impl_getBits_l3 s 0 (s.size : Int) 0) := sem_eq (f := 113) (m := 0) rfl (by kernel_rfl)
theorem impl_getBits_l3_eq (s : ByteArray) (n : Int) (t6 : Int) (t7 : Int) :
    impl_getBits_l3 s n t6 t7 = (
      sif (decide (t7 < t6))
       (sbind (bidx s t7) fun b1 =>
        sif (decide (wi64 (8 * t7) < 0)) (none) <|
        impl_getBits_l3 s (bits .or .u64 n (wu64 ((wu64 b1) * 2 ^ (min (wi64 (8 * t7)).toNat 64)))) t6 (wi64 (t7 + 1))) (some n)) := seml_eq (f := 113) (m := 0) (l := 3) (by kernel_rfl)
theorem impl_ValidSuper_eq (s_Blocks : Int) (s_Log : Int) (s_Seq : Int) (s_Turn : Int) :
    impl_ValidSuper s_Blocks s_Log s_Seq s_Turn = (
      sbind (impl_within s_Blocks 16 256) fun r1 =>
      sif (r1)
       (sbind (impl_within s_Log 8 (if wi64 (s_Blocks - 4) < 64 then wi64 (s_Blocks - 4) else 64)) fun r2 =>
        sif (r2)
         (sbind (impl_within s_Seq 0 1000000000000) fun r3 =>
          sif (r3)
           (sbind (impl_within s_Turn 0 1000000000000) fun r4 =>
            some r4) (some false)) (some false)) (some false)) := sem_eq (f := 73) (m := 0) rfl (by kernel_rfl)
theorem impl_Super_encode_eq (s_Blocks : Int) (s_Log : Int) (s_Seq : Int) (s_Turn : Int) :
    impl_Super_encode s_Blocks s_Log s_Seq s_Turn = (
      sbind (impl_putBytes 1 1) fun r1 =>
      sif (joins (bs [65, 82, 82, 83]) r1)
       (sbind (impl_putBytes s_Blocks 2) fun r2 =>
        sif (joins ((bs [65, 82, 82, 83]) ++ r1) r2)
         (sbind (impl_putBytes s_Log 2) fun r3 =>
          sif (joins (((bs [65, 82, 82, 83]) ++ r1) ++ r2) r3)
           (sbind (impl_putBytes s_Seq 8) fun r4 =>
            sif (joins ((((bs [65, 82, 82, 83]) ++ r1) ++ r2) ++ r3) r4)
             (sbind (impl_putBytes s_Turn 8) fun r5 =>
              sif (joins (((((bs [65, 82, 82, 83]) ++ r1) ++ r2) ++ r3) ++ r4) r5)
               (sbind (impl_padded ((((((bs [65, 82, 82, 83]) ++ r1) ++ r2) ++ r3) ++ r4) ++ r5) 32) fun r6 =>
                sif (joins r6 r6) (some (r6 ++ r6)) (none)) (none)) (none)) (none)) (none)) (none)) := sem_eq (f := 74) (m := 0) rfl (by kernel_rfl)
theorem impl_putBytes_eq (n : Int) (size : Int) :
    impl_putBytes n size = (
      sif (le3 0 size size && room size.toNat 1)
       (impl_putBytes_l3 n ((List.replicate size.toNat (0 : Int)).length : Int) 0 (List.replicate size.toNat (0 : Int))) (none)) := sem_eq (f := 115) (m := 0) rfl (by kernel_rfl)
theorem impl_putBytes_l3_eq (n : Int) (t10 : Int) (t11 : Int) (out : List Int) :
    impl_putBytes_l3 n t10 t11 out = (
      sif (decide (t11 < t10))
       (sif (decide (wi64 (8 * t11) < 0)) (none) <|
        sif (lt3 0 t11 (out.length : Int))
         (impl_putBytes_l3 n t10 (wi64 (t11 + 1)) (out.set t11.toNat (wu8 (Int.fdiv n (2 ^ (min (wi64 (8 * t11)).toNat 64)))))) (none)) (some (toB out))) := seml_eq (f := 115) (m := 0) (l := 3) (by kernel_rfl)
theorem impl_padded_eq (s : ByteArray) (n : Int) :
    impl_padded s n = (
      sbind (impl_zeros (wi64 (n - (s.size : Int)))) fun r1 =>
      sif (joins s r1) (some (s ++ r1)) (none)) := sem_eq (f := 116) (m := 0) rfl (by kernel_rfl)
theorem impl_zeros_eq (n : Int) :
    impl_zeros n = (
      sbind (strings_Repeat (bs [0]) n) fun r1 =>
      some r1) := sem_eq (f := 125) (m := 0) rfl (by kernel_rfl)
theorem strings_Repeat_eq (x0 : ByteArray) (x1 : Int) : strings_Repeat x0 x1 = repeatB x0 x1 := ext_eq (E := E) (f := 126) (m := 0) (g := fun (d : ByteArray × Int) => (repeatB (d.1) (d.2) : Option (ByteArray))) (by kernel_rfl) (x0, x1)
theorem laws_eqSuper_eq (a_Blocks : Int) (a_Log : Int) (a_Seq : Int) (a_Turn : Int) (b_Blocks : Int) (b_Log : Int) (b_Seq : Int) (b_Turn : Int) :
    laws_eqSuper a_Blocks a_Log a_Seq a_Turn b_Blocks b_Log b_Seq b_Turn = (
      sif ((a_Blocks != b_Blocks)) (some false) <|
      sif ((a_Log != b_Log)) (some false) <|
      sif ((a_Seq != b_Seq)) (some false) (sif ((a_Turn != b_Turn)) (some false) (some true))) := sem_eq (f := 24) (m := 0) rfl (by kernel_rfl)
end Go.Ve.X
