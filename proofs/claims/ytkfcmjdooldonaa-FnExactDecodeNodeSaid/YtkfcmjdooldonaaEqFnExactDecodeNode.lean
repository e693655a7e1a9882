/- The equations of the functions that 'FnExactDecodeNode' reaches (printed by plan.py): what each answers. No condition. -/
import Derived.Test.YtkfcmjdooldonaaEnvFnExactDecodeNode
namespace Go.Ve.X
open Go.Proofs Go.Ve Go.RowKit
set_option linter.unusedVariables false
set_option maxRecDepth 100000
theorem laws_FnExactDecodeNode_eq (aBlock : ByteArray) :
    laws_FnExactDecodeNode aBlock = (
      sif (decide ((aBlock.size : Int) > 1048576)) (some true) <|
      sbind (spec_DecodeNode aBlock) fun r1 =>
      sbind (impl_DecodeNode aBlock) fun r2 =>
      sbind (laws_eqNode r2.1 r2.2.2.1 r2.2.2.2.1 r2.2.2.2.2 r1.1 r1.2.2.1 r1.2.2.2.1 r1.2.2.2.2) fun r3 =>
      sif (!r3) (some false) <|
      sif (!(r2.2.1 == r1.2.1)) (some false) <|
      sbind (laws_markNode_vvv r2.1 1 r2.2.2.1 r2.2.2.2.1 r2.2.2.2.2) fun r4 =>
      sbind (laws_heldNode r2.1 r4.2.1 r4.2.2.1 r4.2.2.2 1) fun r5 =>
      sif (decide (r5 < 0)) (some false) <|
      sif ((r5 != r4.1)) (some false) <|
      sbind (impl_DecodeNode aBlock) fun r6 =>
      sbind (laws_eqNode r6.1 r6.2.2.1 r6.2.2.2.1 r6.2.2.2.2 r1.1 r1.2.2.1 r1.2.2.2.1 r1.2.2.2.2) fun r7 =>
      sif (!r7) (some false) <|
      sif (!(r6.2.1 == r1.2.1)) (some false) <|
      sbind (laws_heldNode r2.1 r4.2.1 r4.2.2.1 r4.2.2.2 1) fun r8 =>
      sif (decide (r8 < 0)) (some false) (sif ((r8 != r4.1)) (some false) (some true))) := sem_eq (f := 8) (m := 0) rfl (by kernel_rfl)
theorem spec_DecodeNode_eq (block : ByteArray) :
    spec_DecodeNode block = (
      sbind (spec_l15Decode block) fun r1 =>
      some (r1.1, r1.2.1, r1.2.2.1, r1.2.2.2.1, r1.2.2.2.2)) := sem_eq (f := 39) (m := 0) rfl (by kernel_rfl)
theorem spec_l15Decode_eq (block : ByteArray) :
    spec_l15Decode block = (
      sif (((block.size : Int) != 64)) (some (false, false, ([] : List (Int × Int × Int × Int)), ([] : List Int), ([] : List Int))) <|
      sbind (bidx block 0) fun b1 =>
      sbind (spec_l00In (wi64 b1) 1 2) fun r2 =>
      sif (!r2) (some (false, false, ([] : List (Int × Int × Int × Int)), ([] : List Int), ([] : List Int))) <|
      sbind (bidx block 1) fun b3 =>
      sbind (bidx block 0) fun b4 =>
      sif ((b4 == 1))
       (sif (decide (wi64 b3 > 8))
         (some (false, false, ([] : List (Int × Int × Int × Int)), ([] : List Int), ([] : List Int))) <|
        sif (!(b4 == 1))
         (sif (decide (wi64 b3 > 7))
           (some (false, false, ([] : List (Int × Int × Int × Int)), ([] : List Int), ([] : List Int))) <|
          spec_l15Decode_l8 block (wi64 b3) 0 false (b4 == 1) ([] : List (Int × Int × Int × Int)) ([] : List Int) ([] : List Int) ([] : List (Int × Int × Int × Int)) ([] : List Int) ([] : List Int)) <|
        spec_l15Decode_l8 block (wi64 b3) 0 false (b4 == 1) ([] : List (Int × Int × Int × Int)) ([] : List Int) ([] : List Int) ([] : List (Int × Int × Int × Int)) ([] : List Int) ([] : List Int)) <|
      sif (!(b4 == 1))
       (sif (decide (wi64 b3 > 7))
         (some (false, false, ([] : List (Int × Int × Int × Int)), ([] : List Int), ([] : List Int))) <|
        spec_l15Decode_l8 block (wi64 b3) 0 false (b4 == 1) ([] : List (Int × Int × Int × Int)) ([] : List Int) ([] : List Int) ([] : List (Int × Int × Int × Int)) ([] : List Int) ([] : List Int)) <|
      spec_l15Decode_l8 block (wi64 b3) 0 false (b4 == 1) ([] : List (Int × Int × Int × Int)) ([] : List Int) ([] : List Int) ([] : List (Int × Int × Int × Int)) ([] : List Int) ([] : List Int)) := sem_eq (f := 95) (m := 0) rfl (by kernel_rfl)
theorem spec_l15Decode_l8_eq (block : ByteArray) (count : Int) (i : Int) (t2_Leaf : Bool) (n_Leaf : Bool) (t2_Chunks : List (Int × Int × Int × Int)) (t2_Keys : List Int) (t2_Kids : List Int) (n_Chunks : List (Int × Int × Int × Int)) (n_Keys : List Int) (n_Kids : List Int) :
    spec_l15Decode_l8 block count i t2_Leaf n_Leaf t2_Chunks t2_Keys t2_Kids n_Chunks n_Keys n_Kids = (
      sif (decide (i < count))
       (sif (n_Leaf)
         (sbind (spec_l15Num block (wi64 (2 + (wi64 (7 * i)))) 2) fun r1 =>
          sbind (spec_l15Num block (wi64 ((wi64 (2 + (wi64 (7 * i)))) + 2)) 2) fun r2 =>
          sbind (spec_l15Num block (wi64 ((wi64 (2 + (wi64 (7 * i)))) + 4)) 2) fun r3 =>
          sbind (spec_l15Num block (wi64 ((wi64 (2 + (wi64 (7 * i)))) + 6)) 1) fun r4 =>
          sif (room (n_Chunks.length + 1) 32)
           (spec_l15Decode_l8 block count (wi64 (i + 1)) t2_Leaf n_Leaf t2_Chunks t2_Keys t2_Kids (n_Chunks ++ [(r1, r2, r3, r4)]) n_Keys n_Kids) (none)) <|
        spec_l15Decode_l13 block count 0 t2_Leaf n_Leaf t2_Chunks t2_Keys t2_Kids n_Chunks n_Keys n_Kids) <|
      spec_l15Decode_l13 block count 0 t2_Leaf n_Leaf t2_Chunks t2_Keys t2_Kids n_Chunks n_Keys n_Kids) := seml_eq (f := 95) (m := 0) (l := 8) (by kernel_rfl)
theorem spec_l15Decode_l13_eq (block : ByteArray) (count : Int) (i : Int) (t2_Leaf : Bool) (n_Leaf : Bool) (t2_Chunks : List (Int × Int × Int × Int)) (t2_Keys : List Int) (t2_Kids : List Int) (n_Chunks : List (Int × Int × Int × Int)) (n_Keys : List Int) (n_Kids : List Int) :
    spec_l15Decode_l13 block count i t2_Leaf n_Leaf t2_Chunks t2_Keys t2_Kids n_Chunks n_Keys n_Kids = (
      sif (decide (i ≤ count))
       (sif (!n_Leaf)
         (sbind (spec_l15Num block (wi64 (2 + (wi64 (2 * i)))) 2) fun r1 =>
          sif (room (n_Kids.length + 1) 8)
           (sif (decide (i < count))
             (sbind (spec_l15Num block (wi64 ((wi64 (4 + (wi64 (2 * count)))) + (wi64 (2 * i)))) 2) fun r2 =>
              sif (room (n_Keys.length + 1) 8)
               (spec_l15Decode_l13 block count (wi64 (i + 1)) t2_Leaf n_Leaf t2_Chunks t2_Keys t2_Kids n_Chunks (n_Keys ++ [r2]) (n_Kids ++ [r1])) (none)) <|
            spec_l15Decode_l13 block count (wi64 (i + 1)) t2_Leaf n_Leaf t2_Chunks t2_Keys t2_Kids n_Chunks n_Keys (n_Kids ++ [r1])) (none)) <|
        sbind (spec_l15Node n_Leaf n_Chunks n_Keys n_Kids) fun r1 =>
        sif (!r1)
         (some (false, false, ([] : List (Int × Int × Int × Int)), ([] : List Int), ([] : List Int))) <|
        sbind (spec_l15Encode n_Leaf n_Chunks n_Keys n_Kids) fun r2 =>
        sif (!seq r2 block)
         (some (false, false, ([] : List (Int × Int × Int × Int)), ([] : List Int), ([] : List Int))) (some (n_Leaf, true, n_Chunks, n_Keys, n_Kids))) <|
      sbind (spec_l15Node n_Leaf n_Chunks n_Keys n_Kids) fun r1 =>
      sif (!r1) (some (false, false, ([] : List (Int × Int × Int × Int)), ([] : List Int), ([] : List Int))) <|
      sbind (spec_l15Encode n_Leaf n_Chunks n_Keys n_Kids) fun r2 =>
      sif (!seq r2 block) (some (false, false, ([] : List (Int × Int × Int × Int)), ([] : List Int), ([] : List Int))) (some (n_Leaf, true, n_Chunks, n_Keys, n_Kids))) := seml_eq (f := 95) (m := 0) (l := 13) (by kernel_rfl)
theorem spec_l00In_eq (n : Int) (low : Int) (high : Int) :
    spec_l00In n low high = (
      sif (decide (n ≥ low)) (some (decide (n ≤ high))) (some false)) := sem_eq (f := 53) (m := 0) rfl (by kernel_rfl)
theorem spec_l15Num_eq (block : ByteArray) (at_ : Int) (size : Int) :
    spec_l15Num block at_ size = (
      sbind (spec_l01GetUint block at_ size) fun r1 =>
      some r1.1) := sem_eq (f := 144) (m := 0) rfl (by kernel_rfl)
theorem spec_l01GetUint_eq (s : ByteArray) (at_ : Int) (size : Int) :
    spec_l01GetUint s at_ size = (
      sbind (spec_l01Within s at_ size) fun r1 =>
      sif (!r1) (some (0, false)) <|
      sif ((size == 8))
       (sbind (bidx s (wi64 (at_ + 7))) fun b2 =>
        sif (decide (b2 > 127)) (some (0, false)) (spec_l01GetUint_l5 s at_ 0 (wi64 (size - 1)))) (spec_l01GetUint_l5 s at_ 0 (wi64 (size - 1)))) := sem_eq (f := 162) (m := 0) rfl (by kernel_rfl)
theorem spec_l01GetUint_l5_eq (s : ByteArray) (at_ : Int) (n : Int) (k : Int) :
    spec_l01GetUint_l5 s at_ n k = (
      sif (decide (k ≥ 0))
       (sbind (bidx s (wi64 (at_ + k))) fun b1 =>
        spec_l01GetUint_l5 s at_ (wi64 ((wi64 (n * 256)) + (wi64 b1))) (wi64 (k - 1))) (some (n, true))) := seml_eq (f := 162) (m := 0) (l := 5) (by kernel_rfl)
theorem spec_l01Within_eq (s : ByteArray) (at_ : Int) (size : Int) :
    spec_l01Within s at_ size = (
      sbind (spec_l00In size 1 8) fun r1 =>
      sif (r1)
       (sbind (spec_l00In at_ 0 (s.size : Int)) fun r2 =>
        sif (r2) (some (decide (size ≤ wi64 ((s.size : Int) - at_)))) (some false)) (some false)) := sem_eq (f := 166) (m := 0) rfl (by kernel_rfl)
theorem spec_l15Node_eq (n_Leaf : Bool) (n_Chunks : List (Int × Int × Int × Int)) (n_Keys : List Int) (n_Kids : List Int) :
    spec_l15Node n_Leaf n_Chunks n_Keys n_Kids = (
      sif (n_Leaf) (spec_l15Node_l3 0 n_Leaf n_Chunks n_Keys n_Kids) <|
      sbind (spec_l00In (n_Keys.length : Int) 1 7) fun r1 =>
      sif (!r1) (some false) <|
      sif (((n_Kids.length : Int) != (wi64 ((n_Keys.length : Int) + 1)))) (some false) <|
      sif (((n_Chunks.length : Int) != 0)) (some false) <|
      sbind (spec_l00Rises n_Keys 0 65535) fun r2 =>
      sif (!r2) (some false) (spec_l15Node_l11 0 n_Leaf n_Chunks n_Keys n_Kids)) := sem_eq (f := 88) (m := 0) rfl (by kernel_rfl)
theorem spec_l15Node_l3_eq (i : Int) (n_Leaf : Bool) (n_Chunks : List (Int × Int × Int × Int)) (n_Keys : List Int) (n_Kids : List Int) :
    spec_l15Node_l3 i n_Leaf n_Chunks n_Keys n_Kids = (
      sif (decide (i < (n_Chunks.length : Int)))
       (sif (decide (i ≤ 8))
         (sbind (idx n_Chunks i) fun x1 =>
          sbind (spec_l15Chunk x1.1 x1.2.1 x1.2.2.1 x1.2.2.2) fun r2 =>
          sif (!r2) (some false) <|
          sif (decide (i > 0))
           (sbind (idx n_Chunks (wi64 (i - 1))) fun x3 =>
            sbind (idx n_Chunks i) fun x4 =>
            sif (decide (x3.1 ≥ x4.1)) (some false) <|
            spec_l15Node_l3 (wi64 (i + 1)) n_Leaf n_Chunks n_Keys n_Kids) <|
          spec_l15Node_l3 (wi64 (i + 1)) n_Leaf n_Chunks n_Keys n_Kids) <|
        sif (decide ((n_Chunks.length : Int) ≤ 8)) (sif (((n_Keys.length : Int) == 0)) (some ((n_Kids.length : Int) == 0)) (some false)) (some false)) <|
      sif (decide ((n_Chunks.length : Int) ≤ 8)) (sif (((n_Keys.length : Int) == 0)) (some ((n_Kids.length : Int) == 0)) (some false)) (some false)) := seml_eq (f := 88) (m := 0) (l := 3) (by kernel_rfl)
theorem spec_l15Node_l11_eq (i : Int) (n_Leaf : Bool) (n_Chunks : List (Int × Int × Int × Int)) (n_Keys : List Int) (n_Kids : List Int) :
    spec_l15Node_l11 i n_Leaf n_Chunks n_Keys n_Kids = (
      sif (decide (i < (n_Kids.length : Int)))
       (sbind (idx n_Kids i) fun x1 =>
        sbind (spec_l00In x1 1 255) fun r2 =>
        sif (!r2) (some false) <|
        spec_l15Node_l11 (wi64 (i + 1)) n_Leaf n_Chunks n_Keys n_Kids) (some true)) := seml_eq (f := 88) (m := 0) (l := 11) (by kernel_rfl)
theorem spec_l00Rises_eq (list : List Int) (low : Int) (high : Int) :
    spec_l00Rises list low high = (
      spec_l00Rises_l2 list low high 0) := sem_eq (f := 135) (m := 0) rfl (by kernel_rfl)
theorem spec_l00Rises_l2_eq (list : List Int) (low : Int) (high : Int) (i : Int) :
    spec_l00Rises_l2 list low high i = (
      sif (decide (i < (list.length : Int)))
       (sbind (idx list i) fun x1 =>
        sbind (spec_l00In x1 low high) fun r2 =>
        sif (!r2) (some false) <|
        sif (decide (i > 0))
         (sbind (idx list (wi64 (i - 1))) fun x3 =>
          sbind (idx list i) fun x4 =>
          sif (decide (x3 ≥ x4)) (some false) (spec_l00Rises_l2 list low high (wi64 (i + 1)))) (spec_l00Rises_l2 list low high (wi64 (i + 1)))) (some true)) := seml_eq (f := 135) (m := 0) (l := 2) (by kernel_rfl)
theorem spec_l15Chunk_eq (c_Key : Int) (c_At : Int) (c_Size : Int) (c_Mask : Int) :
    spec_l15Chunk c_Key c_At c_Size c_Mask = (
      sbind (spec_l00In c_Key 0 65535) fun r1 =>
      sif (r1)
       (sbind (spec_l00In c_At 1 255) fun r2 =>
        sif (r2)
         (sbind (spec_l00In c_Size 0 65535) fun r3 =>
          sif (r3)
           (sbind (spec_l00In c_Mask 0 255) fun r4 =>
            some r4) (some false)) (some false)) (some false)) := sem_eq (f := 134) (m := 0) rfl (by kernel_rfl)
theorem spec_l15Encode_eq (n_Leaf : Bool) (n_Chunks : List (Int × Int × Int × Int)) (n_Keys : List Int) (n_Kids : List Int) :
    spec_l15Encode n_Leaf n_Chunks n_Keys n_Kids = (
      sif (n_Leaf)
       (sbind (spec_l01Bytes 1 1) fun r1 =>
        sbind (spec_l01Bytes (n_Chunks.length : Int) 1) fun r2 =>
        sif (joins r1 r2) (spec_l15Encode_l5 (r1 ++ r2) 0 n_Leaf n_Chunks n_Keys n_Kids) (none)) <|
      sbind (spec_l01Bytes 2 1) fun r1 =>
      sbind (spec_l01Bytes (n_Keys.length : Int) 1) fun r2 =>
      sif (joins r1 r2) (spec_l15Encode_l12 (r1 ++ r2) 0 n_Leaf n_Chunks n_Keys n_Kids) (none)) := sem_eq (f := 92) (m := 0) rfl (by kernel_rfl)
theorem spec_l15Encode_l5_eq (t : ByteArray) (i : Int) (n_Leaf : Bool) (n_Chunks : List (Int × Int × Int × Int)) (n_Keys : List Int) (n_Kids : List Int) :
    spec_l15Encode_l5 t i n_Leaf n_Chunks n_Keys n_Kids = (
      sif (decide (i < (n_Chunks.length : Int)))
       (sbind (idx n_Chunks i) fun x1 =>
        sbind (spec_l01Bytes x1.1 2) fun r2 =>
        sbind (spec_l01Bytes x1.2.1 2) fun r3 =>
        sif (joins r2 r3)
         (sbind (spec_l01Bytes x1.2.2.1 2) fun r4 =>
          sif (joins (r2 ++ r3) r4)
           (sbind (spec_l01Bytes x1.2.2.2 1) fun r5 =>
            sif (joins ((r2 ++ r3) ++ r4) r5)
             (sif (joins t (((r2 ++ r3) ++ r4) ++ r5))
               (spec_l15Encode_l5 (t ++ (((r2 ++ r3) ++ r4) ++ r5)) (wi64 (i + 1)) n_Leaf n_Chunks n_Keys n_Kids) (none)) (none)) (none)) (none)) <|
      sbind (spec_l01Pad t 64) fun r1 =>
      some r1) := seml_eq (f := 92) (m := 0) (l := 5) (by kernel_rfl)
theorem spec_l15Encode_l12_eq (t : ByteArray) (i : Int) (n_Leaf : Bool) (n_Chunks : List (Int × Int × Int × Int)) (n_Keys : List Int) (n_Kids : List Int) :
    spec_l15Encode_l12 t i n_Leaf n_Chunks n_Keys n_Kids = (
      sif (decide (i < (n_Kids.length : Int)))
       (sbind (idx n_Kids i) fun x1 =>
        sbind (spec_l01Bytes x1 2) fun r2 =>
        sif (joins t r2) (spec_l15Encode_l12 (t ++ r2) (wi64 (i + 1)) n_Leaf n_Chunks n_Keys n_Kids) (none)) <|
      spec_l15Encode_l16 t 0 n_Leaf n_Chunks n_Keys n_Kids) := seml_eq (f := 92) (m := 0) (l := 12) (by kernel_rfl)
theorem spec_l15Encode_l16_eq (t : ByteArray) (i : Int) (n_Leaf : Bool) (n_Chunks : List (Int × Int × Int × Int)) (n_Keys : List Int) (n_Kids : List Int) :
    spec_l15Encode_l16 t i n_Leaf n_Chunks n_Keys n_Kids = (
      sif (decide (i < (n_Keys.length : Int)))
       (sbind (idx n_Keys i) fun x1 =>
        sbind (spec_l01Bytes x1 2) fun r2 =>
        sif (joins t r2) (spec_l15Encode_l16 (t ++ r2) (wi64 (i + 1)) n_Leaf n_Chunks n_Keys n_Kids) (none)) <|
      sbind (spec_l01Pad t 64) fun r1 =>
      some r1) := seml_eq (f := 92) (m := 0) (l := 16) (by kernel_rfl)
theorem spec_l01Bytes_eq (n : Int) (size : Int) :
    spec_l01Bytes n size = (
      spec_l01Bytes_l3 n size 0 ([] : List Int)) := sem_eq (f := 143) (m := 0) rfl (by kernel_rfl)
theorem spec_l01Bytes_l3_eq (n : Int) (size : Int) (k : Int) (out : List Int) :
    spec_l01Bytes_l3 n size k out = (
      sif (decide (k < size))
       (sif (decide (wu64 (8 * (wu64 k)) < 0)) (none) <|
        sif (room (out.length + 1) 1)
         (spec_l01Bytes_l3 n size (wi64 (k + 1)) (out ++ [wu8 (bits .and .i64 (Int.fdiv n (2 ^ (min (wu64 (8 * (wu64 k))).toNat 64))) 255)])) (none)) (some (toB out))) := seml_eq (f := 143) (m := 0) (l := 3) (by kernel_rfl)
theorem spec_l01Pad_eq (s : ByteArray) (n : Int) :
    spec_l01Pad s n = (
      sif (decide ((s.size : Int) ≥ n)) (some s) <|
      sif (le3 0 (wi64 (n - (s.size : Int))) (wi64 (n - (s.size : Int))) && room ((wi64 (n - (s.size : Int))).toNat) 1)
       (sif (joins s (toB (List.replicate ((wi64 (n - (s.size : Int))).toNat) (0 : Int)))) (some (s ++ (toB (List.replicate ((wi64 (n - (s.size : Int))).toNat) (0 : Int))))) (none)) (none)) := sem_eq (f := 116) (m := 0) rfl (by kernel_rfl)
theorem impl_DecodeNode_eq (block : ByteArray) :
    impl_DecodeNode block = (
      sbind (impl_isBlock block) fun r1 =>
      sif (!r1) (some (false, false, ([] : List (Int × Int × Int × Int)), ([] : List Int), ([] : List Int))) <|
      sbind (impl_decoder_byte_w block false) fun r2 =>
      sbind (impl_decoder_byte_w r2.2.1 r2.2.2) fun r3 =>
      sif ((r2.1 == 1))
       (impl_DecodeNode_l8 block r3.1 0 false r3.2.1 r3.2.2 (r2.1 == 1) ([] : List (Int × Int × Int × Int)) ([] : List Int) ([] : List Int) ([] : List (Int × Int × Int × Int)) ([] : List Int) ([] : List Int)) <|
      sbind (impl_decoder_pairs_w (wi64 (r3.1 + 1)) r3.2.1 r3.2.2) fun r4 =>
      sbind (impl_decoder_pairs_w r3.1 r4.1 r4.2.1) fun r5 =>
      sif (r5.2.1) (some (false, false, ([] : List (Int × Int × Int × Int)), ([] : List Int), ([] : List Int))) <|
      sbind (impl_ValidNode (r2.1 == 1) ([] : List (Int × Int × Int × Int)) r5.2.2 r4.2.2) fun r6 =>
      sif (!r6) (some (false, false, ([] : List (Int × Int × Int × Int)), ([] : List Int), ([] : List Int))) <|
      sbind (impl_Node_encode (r2.1 == 1) ([] : List (Int × Int × Int × Int)) r5.2.2 r4.2.2) fun r7 =>
      sif (!seq r7 block) (some (false, false, ([] : List (Int × Int × Int × Int)), ([] : List Int), ([] : List Int))) <|
      some ((r2.1 == 1), true, ([] : List (Int × Int × Int × Int)), r5.2.2, r4.2.2)) := sem_eq (f := 34) (m := 0) rfl (by kernel_rfl)
theorem impl_DecodeNode_l8_eq (block : ByteArray) (many : Int) (k : Int) (t2_Leaf : Bool) (d_rest : ByteArray) (d_bad : Bool) (n_Leaf : Bool) (t2_Chunks : List (Int × Int × Int × Int)) (t2_Keys : List Int) (t2_Kids : List Int) (n_Chunks : List (Int × Int × Int × Int)) (n_Keys : List Int) (n_Kids : List Int) :
    impl_DecodeNode_l8 block many k t2_Leaf d_rest d_bad n_Leaf t2_Chunks t2_Keys t2_Kids n_Chunks n_Keys n_Kids = (
      sif (decide (k < many))
       (sif (!d_bad)
         (sbind (impl_decoder_number_w 2 d_rest d_bad) fun r1 =>
          sbind (impl_decoder_number_w 2 r1.2.1 r1.2.2) fun r2 =>
          sbind (impl_decoder_number_w 2 r2.2.1 r2.2.2) fun r3 =>
          sbind (impl_decoder_byte_w r3.2.1 r3.2.2) fun r4 =>
          sif (room (n_Chunks.length + 1) 32)
           (impl_DecodeNode_l8 block many (wi64 (k + 1)) t2_Leaf r4.2.1 r4.2.2 n_Leaf t2_Chunks t2_Keys t2_Kids (n_Chunks ++ [(r1.1, r2.1, r3.1, r4.1)]) n_Keys n_Kids) (none)) <|
        sif (d_bad)
         (some (false, false, ([] : List (Int × Int × Int × Int)), ([] : List Int), ([] : List Int))) <|
        sbind (impl_ValidNode n_Leaf n_Chunks n_Keys n_Kids) fun r1 =>
        sif (!r1)
         (some (false, false, ([] : List (Int × Int × Int × Int)), ([] : List Int), ([] : List Int))) <|
        sbind (impl_Node_encode n_Leaf n_Chunks n_Keys n_Kids) fun r2 =>
        sif (!seq r2 block)
         (some (false, false, ([] : List (Int × Int × Int × Int)), ([] : List Int), ([] : List Int))) (some (n_Leaf, true, n_Chunks, n_Keys, n_Kids))) <|
      sif (d_bad) (some (false, false, ([] : List (Int × Int × Int × Int)), ([] : List Int), ([] : List Int))) <|
      sbind (impl_ValidNode n_Leaf n_Chunks n_Keys n_Kids) fun r1 =>
      sif (!r1) (some (false, false, ([] : List (Int × Int × Int × Int)), ([] : List Int), ([] : List Int))) <|
      sbind (impl_Node_encode n_Leaf n_Chunks n_Keys n_Kids) fun r2 =>
      sif (!seq r2 block) (some (false, false, ([] : List (Int × Int × Int × Int)), ([] : List Int), ([] : List Int))) (some (n_Leaf, true, n_Chunks, n_Keys, n_Kids))) := seml_eq (f := 34) (m := 0) (l := 8) (by kernel_rfl)
theorem impl_isBlock_eq (s : ByteArray) :
    impl_isBlock s = (
      some ((s.size : Int) == 64)) := sem_eq (f := 68) (m := 0) rfl (by kernel_rfl)
theorem impl_decoder_byte_w_eq (d_rest : ByteArray) (d_bad : Bool) :
    impl_decoder_byte_w d_rest d_bad = (
      sbind (impl_decoder_number_w 1 d_rest d_bad) fun r1 =>
      some (r1.1, r1.2.1, r1.2.2)) := sem_eq (f := 46) (m := 0) rfl (by kernel_rfl)
theorem impl_decoder_number_w_eq (size : Int) (d_rest : ByteArray) (d_bad : Bool) :
    impl_decoder_number_w size d_rest d_bad = (
      sbind (impl_decoder_take_w size d_rest d_bad) fun r1 =>
      sbind (impl_getBits r1.1) fun r2 =>
      some (wi64 r2, r1.2.1, r1.2.2)) := sem_eq (f := 48) (m := 0) rfl (by kernel_rfl)
theorem impl_decoder_take_w_eq (n : Int) (d_rest : ByteArray) (d_bad : Bool) :
    impl_decoder_take_w n d_rest d_bad = (
      sbind (impl_cut d_rest 0 n) fun r1 =>
      sif (!r1.2) (some (bs [], d_rest, true)) <|
      sif (le3 0 n (d_rest.size : Int)) (some (r1.1, d_rest.extract n.toNat d_rest.size, d_bad)) (none)) := sem_eq (f := 47) (m := 0) rfl (by kernel_rfl)
theorem impl_cut_eq (s : ByteArray) (at_ : Int) (size : Int) :
    impl_cut s at_ size = (
      sif (decide (size < 0)) (some (bs [], false)) <|
      sbind (impl_within at_ 0 (wi64 ((s.size : Int) - size))) fun r1 =>
      sif (!r1) (some (bs [], false)) <|
      sif (le3 0 (wi64 (at_ + size)) (s.size : Int))
       (sif (le3 0 at_ (wi64 (at_ + size))) (some (s.extract at_.toNat ((wi64 (at_ + size)).toNat), true)) (none)) (none)) := sem_eq (f := 104) (m := 0) rfl (by kernel_rfl)
theorem impl_within_eq (n : Int) (low : Int) (high : Int) :
    impl_within n low high = (
      sif (decide (n ≥ low)) (some (decide (n ≤ high))) (some false)) := sem_eq (f := 49) (m := 0) rfl (by kernel_rfl)
theorem impl_getBits_eq (s : ByteArray) :
    impl_getBits s = (
      impl_getBits_l3 s 0 (s.size : Int) 0) := sem_eq (f := 105) (m := 0) rfl (by kernel_rfl)
theorem impl_getBits_l3_eq (s : ByteArray) (n : Int) (t6 : Int) (t7 : Int) :
    impl_getBits_l3 s n t6 t7 = (
      sif (decide (t7 < t6))
       (sbind (bidx s t7) fun b1 =>
        sif (decide (wi64 (8 * t7) < 0)) (none) <|
        impl_getBits_l3 s (bits .or .u64 n (wu64 ((wu64 b1) * 2 ^ (min (wi64 (8 * t7)).toNat 64)))) t6 (wi64 (t7 + 1))) (some n)) := seml_eq (f := 105) (m := 0) (l := 3) (by kernel_rfl)
theorem impl_decoder_pairs_w_eq (many : Int) (d_rest : ByteArray) (d_bad : Bool) :
    impl_decoder_pairs_w many d_rest d_bad = (
      impl_decoder_pairs_w_l3 many 0 d_rest d_bad ([] : List Int)) := sem_eq (f := 89) (m := 0) rfl (by kernel_rfl)
theorem impl_decoder_pairs_w_l3_eq (t6 : Int) (t7 : Int) (d_rest : ByteArray) (d_bad : Bool) (out : List Int) :
    impl_decoder_pairs_w_l3 t6 t7 d_rest d_bad out = (
      sif (decide (t7 < t6))
       (sbind (impl_decoder_number_w 2 d_rest d_bad) fun r1 =>
        sif (room (out.length + 1) 8) (impl_decoder_pairs_w_l3 t6 (wi64 (t7 + 1)) r1.2.1 r1.2.2 (out ++ [r1.1])) (none)) (some (d_rest, d_bad, out))) := seml_eq (f := 89) (m := 0) (l := 3) (by kernel_rfl)
theorem impl_ValidNode_eq (n_Leaf : Bool) (n_Chunks : List (Int × Int × Int × Int)) (n_Keys : List Int) (n_Kids : List Int) :
    impl_ValidNode n_Leaf n_Chunks n_Keys n_Kids = (
      sif (n_Leaf)
       (sif (((n_Keys.length : Int) == 0))
         (sif (((n_Kids.length : Int) == 0))
           (sif (decide ((n_Chunks.length : Int) ≤ 8))
             (sbind (impl_keysOf n_Chunks) fun r1 =>
              sbind (impl_increasing r1) fun r2 =>
              sif (r2)
               (sbind (slices_ContainsFunc_simpl_Chunk_impl_Chunk_d_ValidNode_1 n_Chunks) fun r3 =>
                some !r3) (some false)) (some false)) (some false)) (some false)) <|
      sif (((n_Chunks.length : Int) == 0))
       (sbind (impl_within (n_Keys.length : Int) 1 7) fun r1 =>
        sif (r1)
         (sbind (impl_increasing n_Keys) fun r2 =>
          sif (r2)
           (sbind (impl_allWithin n_Keys 0 65535) fun r3 =>
            sif (r3)
             (sif (((n_Kids.length : Int) == (wi64 ((n_Keys.length : Int) + 1))))
               (sbind (impl_allWithin n_Kids 1 255) fun r4 =>
                some r4) (some false)) (some false)) (some false)) (some false)) (some false)) := sem_eq (f := 90) (m := 0) rfl (by kernel_rfl)
theorem impl_keysOf_eq (list : List (Int × Int × Int × Int)) :
    impl_keysOf list = (
      impl_keysOf_l3 list (list.length : Int) 0 ([] : List Int)) := sem_eq (f := 137) (m := 0) rfl (by kernel_rfl)
theorem impl_keysOf_l3_eq (t6 : List (Int × Int × Int × Int)) (t7 : Int) (t8 : Int) (out : List Int) :
    impl_keysOf_l3 t6 t7 t8 out = (
      sif (decide (t8 < t7))
       (sbind (idx t6 t8) fun x1 =>
        sif (room (out.length + 1) 8) (impl_keysOf_l3 t6 t7 (wi64 (t8 + 1)) (out ++ [x1.1])) (none)) (some out)) := seml_eq (f := 137) (m := 0) (l := 3) (by kernel_rfl)
theorem impl_increasing_eq (list : List Int) :
    impl_increasing list = (
      impl_increasing_l2 list 1) := sem_eq (f := 136) (m := 0) rfl (by kernel_rfl)
theorem impl_increasing_l2_eq (list : List Int) (i : Int) :
    impl_increasing_l2 list i = (
      sif (decide (i < (list.length : Int)))
       (sbind (idx list i) fun x1 =>
        sbind (idx list (wi64 (i - 1))) fun x2 =>
        sif (decide (x1 ≤ x2)) (some false) (impl_increasing_l2 list (wi64 (i + 1)))) (some true)) := seml_eq (f := 136) (m := 0) (l := 2) (by kernel_rfl)
theorem slices_ContainsFunc_simpl_Chunk_impl_Chunk_d_ValidNode_1_eq (s : List (Int × Int × Int × Int)) :
    slices_ContainsFunc_simpl_Chunk_impl_Chunk_d_ValidNode_1 s = (
      sbind (slices_IndexFunc_simpl_Chunk_impl_Chunk_d_ValidNode_1 s) fun r1 =>
      some (decide (r1 ≥ 0))) := sem_eq (f := 138) (m := 0) rfl (by kernel_rfl)
theorem slices_IndexFunc_simpl_Chunk_impl_Chunk_d_ValidNode_1_eq (s : List (Int × Int × Int × Int)) :
    slices_IndexFunc_simpl_Chunk_impl_Chunk_d_ValidNode_1 s = (
      slices_IndexFunc_simpl_Chunk_impl_Chunk_d_ValidNode_1_l2 s (s.length : Int) 0) := sem_eq (f := 160) (m := 0) rfl (by kernel_rfl)
theorem slices_IndexFunc_simpl_Chunk_impl_Chunk_d_ValidNode_1_l2_eq (s : List (Int × Int × Int × Int)) (t7 : Int) (t8 : Int) :
    slices_IndexFunc_simpl_Chunk_impl_Chunk_d_ValidNode_1_l2 s t7 t8 = (
      sif (decide (t8 < t7))
       (sbind (idx s t8) fun x1 =>
        sbind (impl_ValidNode_1 x1.1 x1.2.1 x1.2.2.1 x1.2.2.2) fun r2 =>
        sif (r2) (some t8) <|
        slices_IndexFunc_simpl_Chunk_impl_Chunk_d_ValidNode_1_l2 s t7 (wi64 (t8 + 1))) (some (-1))) := seml_eq (f := 160) (m := 0) (l := 2) (by kernel_rfl)
theorem impl_ValidNode_1_eq (c_Key : Int) (c_At : Int) (c_Size : Int) (c_Mask : Int) :
    impl_ValidNode_1 c_Key c_At c_Size c_Mask = (
      sbind (impl_chunkOk c_Key c_At c_Size c_Mask) fun r1 =>
      some !r1) := sem_eq (f := 139) (m := 0) rfl (by kernel_rfl)
theorem impl_chunkOk_eq (c_Key : Int) (c_At : Int) (c_Size : Int) (c_Mask : Int) :
    impl_chunkOk c_Key c_At c_Size c_Mask = (
      sbind (impl_within c_Key 0 65535) fun r1 =>
      sif (r1)
       (sbind (impl_within c_At 1 255) fun r2 =>
        sif (r2)
         (sbind (impl_within c_Size 0 65535) fun r3 =>
          sif (r3)
           (sbind (impl_within c_Mask 0 255) fun r4 =>
            some r4) (some false)) (some false)) (some false)) := sem_eq (f := 140) (m := 0) rfl (by kernel_rfl)
theorem impl_allWithin_eq (list : List Int) (low : Int) (high : Int) :
    impl_allWithin list low high = (
      sbind (slices_ContainsFunc_sint64_int64_d_allWithin_1 list low high) fun r1 =>
      some !r1) := sem_eq (f := 80) (m := 0) rfl (by kernel_rfl)
theorem slices_ContainsFunc_sint64_int64_d_allWithin_1_eq (s : List Int) (c0 : Int) (c1 : Int) :
    slices_ContainsFunc_sint64_int64_d_allWithin_1 s c0 c1 = (
      sbind (slices_IndexFunc_sint64_int64_d_allWithin_1 s c0 c1) fun r1 =>
      some (decide (r1 ≥ 0))) := sem_eq (f := 129) (m := 0) rfl (by kernel_rfl)
theorem slices_IndexFunc_sint64_int64_d_allWithin_1_eq (s : List Int) (c0 : Int) (c1 : Int) :
    slices_IndexFunc_sint64_int64_d_allWithin_1 s c0 c1 = (
      slices_IndexFunc_sint64_int64_d_allWithin_1_l2 s (s.length : Int) 0 c0 c1) := sem_eq (f := 159) (m := 0) rfl (by kernel_rfl)
theorem slices_IndexFunc_sint64_int64_d_allWithin_1_l2_eq (s : List Int) (t7 : Int) (t8 : Int) (c0 : Int) (c1 : Int) :
    slices_IndexFunc_sint64_int64_d_allWithin_1_l2 s t7 t8 c0 c1 = (
      sif (decide (t8 < t7))
       (sbind (idx s t8) fun x1 =>
        sbind (impl_allWithin_1 x1 c0 c1) fun r2 =>
        sif (r2) (some t8) <|
        slices_IndexFunc_sint64_int64_d_allWithin_1_l2 s t7 (wi64 (t8 + 1)) c0 c1) (some (-1))) := seml_eq (f := 159) (m := 0) (l := 2) (by kernel_rfl)
theorem impl_allWithin_1_eq (n : Int) (t1 : Int) (t2 : Int) :
    impl_allWithin_1 n t1 t2 = (
      sbind (impl_within n t1 t2) fun r1 =>
      some !r1) := sem_eq (f := 130) (m := 0) rfl (by kernel_rfl)
theorem impl_Node_encode_eq (n_Leaf : Bool) (n_Chunks : List (Int × Int × Int × Int)) (n_Keys : List Int) (n_Kids : List Int) :
    impl_Node_encode n_Leaf n_Chunks n_Keys n_Kids = (
      sif (!n_Leaf)
       (sbind (impl_putBytes 2 1) fun r1 =>
        sbind (impl_putBytes (n_Keys.length : Int) 1) fun r2 =>
        sif (joins r1 r2)
         (sbind (impl_putPairs n_Kids) fun r3 =>
          sif (joins (r1 ++ r2) r3)
           (sbind (impl_putPairs n_Keys) fun r4 =>
            sif (joins ((r1 ++ r2) ++ r3) r4)
             (sbind (impl_padded (((r1 ++ r2) ++ r3) ++ r4) 64) fun r5 =>
              some r5) (none)) (none)) (none)) <|
      sbind (impl_putBytes 1 1) fun r1 =>
      sbind (impl_putBytes (n_Chunks.length : Int) 1) fun r2 =>
      sif (joins r1 r2) (impl_Node_encode_l5 (r1 ++ r2) n_Chunks (n_Chunks.length : Int) 0) (none)) := sem_eq (f := 91) (m := 0) rfl (by kernel_rfl)
theorem impl_Node_encode_l5_eq (out : ByteArray) (t31 : List (Int × Int × Int × Int)) (t32 : Int) (t33 : Int) :
    impl_Node_encode_l5 out t31 t32 t33 = (
      sif (decide (t33 < t32))
       (sbind (idx t31 t33) fun x1 =>
        sbind (impl_putPairs [x1.1, x1.2.1, x1.2.2.1]) fun r2 =>
        sbind (impl_putBytes x1.2.2.2 1) fun r3 =>
        sif (joins r2 r3)
         (sif (joins out (r2 ++ r3)) (impl_Node_encode_l5 (out ++ (r2 ++ r3)) t31 t32 (wi64 (t33 + 1))) (none)) (none)) <|
      sbind (impl_padded out 64) fun r1 =>
      some r1) := seml_eq (f := 91) (m := 0) (l := 5) (by kernel_rfl)
theorem impl_putBytes_eq (n : Int) (size : Int) :
    impl_putBytes n size = (
      sif (le3 0 size size && room size.toNat 1)
       (impl_putBytes_l3 n ((List.replicate size.toNat (0 : Int)).length : Int) 0 (List.replicate size.toNat (0 : Int))) (none)) := sem_eq (f := 102) (m := 0) rfl (by kernel_rfl)
theorem impl_putBytes_l3_eq (n : Int) (t10 : Int) (t11 : Int) (out : List Int) :
    impl_putBytes_l3 n t10 t11 out = (
      sif (decide (t11 < t10))
       (sif (decide (wi64 (8 * t11) < 0)) (none) <|
        sif (lt3 0 t11 (out.length : Int))
         (impl_putBytes_l3 n t10 (wi64 (t11 + 1)) (out.set t11.toNat (wu8 (Int.fdiv n (2 ^ (min (wi64 (8 * t11)).toNat 64)))))) (none)) (some (toB out))) := seml_eq (f := 102) (m := 0) (l := 3) (by kernel_rfl)
theorem impl_putPairs_eq (list : List Int) :
    impl_putPairs list = (
      impl_putPairs_l3 list (list.length : Int) 0 ([] : List Int)) := sem_eq (f := 142) (m := 0) rfl (by kernel_rfl)
theorem impl_putPairs_l3_eq (t6 : List Int) (t7 : Int) (t8 : Int) (b_buf : List Int) :
    impl_putPairs_l3 t6 t7 t8 b_buf = (
      sif (decide (t8 < t7))
       (sbind (idx t6 t8) fun x1 =>
        sbind (impl_putBytes x1 2) fun r2 =>
        sbind (strings_Builder_WriteString_wv r2 b_buf) fun r3 =>
        impl_putPairs_l3 t6 t7 (wi64 (t8 + 1)) r3.2) <|
      sbind (strings_Builder_String b_buf) fun r1 =>
      some r1) := seml_eq (f := 142) (m := 0) (l := 3) (by kernel_rfl)
theorem strings_Builder_WriteString_wv_eq (s : ByteArray) (b_buf : List Int) :
    strings_Builder_WriteString_wv s b_buf = (
      sbind (strings_Builder_copyCheck ()) fun r1 =>
      sif (room (b_buf.length + ((ofB s).length)) 1) (some ((s.size : Int), b_buf ++ (ofB s))) (none)) := sem_eq (f := 100) (m := 0) rfl (by kernel_rfl)
theorem strings_Builder_copyCheck_eq : strings_Builder_copyCheck () = some () := ext_eq (E := E) (f := 146) (m := 0) (g := fun (_ : Unit) => (some () : Option Unit)) (by kernel_rfl) ()
theorem strings_Builder_String_eq (x0 : List Int) : strings_Builder_String x0 = textB x0 := ext_eq (E := E) (f := 103) (m := 0) (g := fun (d : List Int) => (textB (d) : Option (ByteArray))) (by kernel_rfl) (x0)
theorem impl_padded_eq (s : ByteArray) (n : Int) :
    impl_padded s n = (
      sbind (impl_zeros (wi64 (n - (s.size : Int)))) fun r1 =>
      sif (joins s r1) (some (s ++ r1)) (none)) := sem_eq (f := 141) (m := 0) rfl (by kernel_rfl)
theorem impl_zeros_eq (n : Int) :
    impl_zeros n = (
      sbind (strings_Repeat (bs [0]) n) fun r1 =>
      some r1) := sem_eq (f := 161) (m := 0) rfl (by kernel_rfl)
theorem strings_Repeat_eq (x0 : ByteArray) (x1 : Int) : strings_Repeat x0 x1 = repeatB x0 x1 := ext_eq (E := E) (f := 165) (m := 0) (g := fun (d : ByteArray × Int) => (repeatB (d.1) (d.2) : Option (ByteArray))) (by kernel_rfl) (x0, x1)
theorem laws_eqNode_eq (a_Leaf : Bool) (a_Chunks : List (Int × Int × Int × Int)) (a_Keys : List Int) (a_Kids : List Int) (b_Leaf : Bool) (b_Chunks : List (Int × Int × Int × Int)) (b_Keys : List Int) (b_Kids : List Int) :
    laws_eqNode a_Leaf a_Chunks a_Keys a_Kids b_Leaf b_Chunks b_Keys b_Kids = (
      sif (!(a_Leaf == b_Leaf)) (some false) <|
      sbind (laws_eqChunkS a_Chunks b_Chunks) fun r1 =>
      sif (!r1) (some false) <|
      sbind (laws_eqInt64S a_Keys b_Keys) fun r2 =>
      sif (!r2) (some false) <|
      sbind (laws_eqInt64S a_Kids b_Kids) fun r3 =>
      sif (!r3) (some false) (some true)) := sem_eq (f := 40) (m := 0) rfl (by kernel_rfl)
theorem laws_eqChunkS_eq (a : List (Int × Int × Int × Int)) (b : List (Int × Int × Int × Int)) :
    laws_eqChunkS a b = (
      sif (((a.length : Int) != (b.length : Int))) (some false) (laws_eqChunkS_l4 a b 0)) := sem_eq (f := 96) (m := 0) rfl (by kernel_rfl)
theorem laws_eqChunkS_l4_eq (a : List (Int × Int × Int × Int)) (b : List (Int × Int × Int × Int)) (i : Int) :
    laws_eqChunkS_l4 a b i = (
      sif (decide (i < (a.length : Int)))
       (sbind (idx a i) fun x1 =>
        sbind (idx b i) fun x2 =>
        sbind (laws_eqChunk x1.1 x1.2.1 x1.2.2.1 x1.2.2.2 x2.1 x2.2.1 x2.2.2.1 x2.2.2.2) fun r3 =>
        sif (!r3) (some false) (laws_eqChunkS_l4 a b (wi64 (i + 1)))) (some true)) := seml_eq (f := 96) (m := 0) (l := 4) (by kernel_rfl)
theorem laws_eqChunk_eq (a_Key : Int) (a_At : Int) (a_Size : Int) (a_Mask : Int) (b_Key : Int) (b_At : Int) (b_Size : Int) (b_Mask : Int) :
    laws_eqChunk a_Key a_At a_Size a_Mask b_Key b_At b_Size b_Mask = (
      sif ((a_Key != b_Key)) (some false) <|
      sif ((a_At != b_At)) (some false) <|
      sif ((a_Size != b_Size)) (some false) (sif ((a_Mask != b_Mask)) (some false) (some true))) := sem_eq (f := 145) (m := 0) rfl (by kernel_rfl)
theorem laws_eqInt64S_eq (a : List Int) (b : List Int) :
    laws_eqInt64S a b = (
      sif (((a.length : Int) != (b.length : Int))) (some false) (laws_eqInt64S_l4 a b 0)) := sem_eq (f := 28) (m := 0) rfl (by kernel_rfl)
theorem laws_eqInt64S_l4_eq (a : List Int) (b : List Int) (i : Int) :
    laws_eqInt64S_l4 a b i = (
      sif (decide (i < (a.length : Int)))
       (sbind (idx a i) fun x1 =>
        sbind (idx b i) fun x2 =>
        sif ((x1 != x2)) (some false) (laws_eqInt64S_l4 a b (wi64 (i + 1)))) (some true)) := seml_eq (f := 28) (m := 0) (l := 4) (by kernel_rfl)
theorem laws_markNode_vvv_eq (a_Leaf : Bool) (k : Int) (a_Chunks : List (Int × Int × Int × Int)) (a_Keys : List Int) (a_Kids : List Int) :
    laws_markNode_vvv a_Leaf k a_Chunks a_Keys a_Kids = (
      sbind (laws_markChunkS_v k a_Chunks) fun r1 =>
      sbind (laws_markInt64S_v r1.1 a_Keys) fun r2 =>
      sbind (laws_markInt64S_v r2.1 a_Kids) fun r3 =>
      some (r3.1, r1.2, r2.2, r3.2)) := sem_eq (f := 41) (m := 0) rfl (by kernel_rfl)
theorem laws_markChunkS_v_eq (k : Int) (a : List (Int × Int × Int × Int)) :
    laws_markChunkS_v k a = (
      laws_markChunkS_v_l2 k 0 a) := sem_eq (f := 97) (m := 0) rfl (by kernel_rfl)
theorem laws_markChunkS_v_l2_eq (k : Int) (i : Int) (a : List (Int × Int × Int × Int)) :
    laws_markChunkS_v_l2 k i a = (
      sif (decide (i < (a.length : Int)))
       (sif (lt3 0 i (a.length : Int))
         (sbind (a[i.toNat]?) fun x1 =>
          sif (lt3 0 i ((a.set i.toNat (k, x1.2.1, x1.2.2.1, x1.2.2.2)).length : Int))
           (sbind ((a.set i.toNat (k, x1.2.1, x1.2.2.1, x1.2.2.2))[i.toNat]?) fun x2 =>
            sif (lt3 0 i (((a.set i.toNat (k, x1.2.1, x1.2.2.1, x1.2.2.2)).set i.toNat (x2.1, wi64 (k + 1), x2.2.2.1, x2.2.2.2)).length : Int))
             (sbind (((a.set i.toNat (k, x1.2.1, x1.2.2.1, x1.2.2.2)).set i.toNat (x2.1, wi64 (k + 1), x2.2.2.1, x2.2.2.2))[i.toNat]?) fun x3 =>
              sif (lt3 0 i ((((a.set i.toNat (k, x1.2.1, x1.2.2.1, x1.2.2.2)).set i.toNat (x2.1, wi64 (k + 1), x2.2.2.1, x2.2.2.2)).set i.toNat (x3.1, x3.2.1, wi64 ((wi64 (k + 1)) + 1), x3.2.2.2)).length : Int))
               (sbind ((((a.set i.toNat (k, x1.2.1, x1.2.2.1, x1.2.2.2)).set i.toNat (x2.1, wi64 (k + 1), x2.2.2.1, x2.2.2.2)).set i.toNat (x3.1, x3.2.1, wi64 ((wi64 (k + 1)) + 1), x3.2.2.2))[i.toNat]?) fun x4 =>
                laws_markChunkS_v_l2 (wi64 ((wi64 ((wi64 ((wi64 (k + 1)) + 1)) + 1)) + 1)) (wi64 (i + 1)) ((((a.set i.toNat (k, x1.2.1, x1.2.2.1, x1.2.2.2)).set i.toNat (x2.1, wi64 (k + 1), x2.2.2.1, x2.2.2.2)).set i.toNat (x3.1, x3.2.1, wi64 ((wi64 (k + 1)) + 1), x3.2.2.2)).set i.toNat (x4.1, x4.2.1, x4.2.2.1, wi64 ((wi64 ((wi64 (k + 1)) + 1)) + 1)))) (none)) (none)) (none)) (none)) (some (k, a))) := seml_eq (f := 97) (m := 0) (l := 2) (by kernel_rfl)
theorem laws_markInt64S_v_eq (k : Int) (a : List Int) :
    laws_markInt64S_v k a = (
      laws_markInt64S_v_l2 k 0 a) := sem_eq (f := 30) (m := 0) rfl (by kernel_rfl)
theorem laws_markInt64S_v_l2_eq (k : Int) (i : Int) (a : List Int) :
    laws_markInt64S_v_l2 k i a = (
      sif (decide (i < (a.length : Int)))
       (sif (lt3 0 i (a.length : Int)) (laws_markInt64S_v_l2 (wi64 (k + 1)) (wi64 (i + 1)) (a.set i.toNat k)) (none)) (some (k, a))) := seml_eq (f := 30) (m := 0) (l := 2) (by kernel_rfl)
theorem laws_heldNode_eq (a_Leaf : Bool) (a_Chunks : List (Int × Int × Int × Int)) (a_Keys : List Int) (a_Kids : List Int) (k : Int) :
    laws_heldNode a_Leaf a_Chunks a_Keys a_Kids k = (
      sbind (laws_heldChunkS a_Chunks k) fun r1 =>
      sif (decide (r1 < 0)) (some (-1)) <|
      sbind (laws_heldInt64S a_Keys r1) fun r2 =>
      sif (decide (r2 < 0)) (some (-1)) <|
      sbind (laws_heldInt64S a_Kids r2) fun r3 =>
      sif (decide (r3 < 0)) (some (-1)) (some r3)) := sem_eq (f := 42) (m := 0) rfl (by kernel_rfl)
theorem laws_heldChunkS_eq (a : List (Int × Int × Int × Int)) (k : Int) :
    laws_heldChunkS a k = (
      laws_heldChunkS_l2 a k 0) := sem_eq (f := 98) (m := 0) rfl (by kernel_rfl)
theorem laws_heldChunkS_l2_eq (a : List (Int × Int × Int × Int)) (k : Int) (i : Int) :
    laws_heldChunkS_l2 a k i = (
      sif (decide (i < (a.length : Int)))
       (sbind (idx a i) fun x1 =>
        sif ((x1.1 != k)) (some (-1)) <|
        sbind (idx a i) fun x2 =>
        sif ((x2.2.1 != (wi64 (k + 1)))) (some (-1)) <|
        sbind (idx a i) fun x3 =>
        sif ((x3.2.2.1 != (wi64 ((wi64 (k + 1)) + 1)))) (some (-1)) <|
        sbind (idx a i) fun x4 =>
        sif ((x4.2.2.2 != (wi64 ((wi64 ((wi64 (k + 1)) + 1)) + 1)))) (some (-1)) <|
        laws_heldChunkS_l2 a (wi64 ((wi64 ((wi64 ((wi64 (k + 1)) + 1)) + 1)) + 1)) (wi64 (i + 1))) (some k)) := seml_eq (f := 98) (m := 0) (l := 2) (by kernel_rfl)
theorem laws_heldInt64S_eq (a : List Int) (k : Int) :
    laws_heldInt64S a k = (
      laws_heldInt64S_l2 a k 0) := sem_eq (f := 85) (m := 0) rfl (by kernel_rfl)
theorem laws_heldInt64S_l2_eq (a : List Int) (k : Int) (i : Int) :
    laws_heldInt64S_l2 a k i = (
      sif (decide (i < (a.length : Int)))
       (sbind (idx a i) fun x1 =>
        sif ((x1 != k)) (some (-1)) <|
        laws_heldInt64S_l2 a (wi64 (k + 1)) (wi64 (i + 1))) (some k)) := seml_eq (f := 85) (m := 0) (l := 2) (by kernel_rfl)
end Go.Ve.X
