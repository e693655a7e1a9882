/- The equations of the functions that 'FnNodes' reaches (printed by plan.py): what each answers. No condition. -/
import Derived.Test.YtkfcmjdooldonaaEnvFnNodes
namespace Go.Ve.X
open Go.Proofs Go.Ve Go.RowKit
set_option linter.unusedVariables false
set_option maxRecDepth 100000
theorem laws_FnNodes_eq (code : List Int) (more : List Int) :
    laws_FnNodes code more = (
      sbind (laws_b10Long code) fun r1 =>
      sif (r1) (some true) <|
      sbind (laws_b10Long more) fun r2 =>
      sif (r2) (some true) <|
      sbind (spec_DrawEncodeNode code) fun r3 =>
      sbind (spec_ValidNode r3.1 r3.2.1 r3.2.2.1 r3.2.2.2) fun r4 =>
      sif (r4)
       (sbind (impl_EncodeNode r3.1 r3.2.1 r3.2.2.1 r3.2.2.2) fun r5 =>
        sbind (impl_DecodeNode r5) fun r6 =>
        sif (!r6.2.1) (some false) <|
        sif (!(r6.1 == r3.1)) (some false) <|
        sbind (laws_b10Chunks r6.2.2.1 r3.2.1) fun r7 =>
        sif (!r7) (some false) <|
        sbind (laws_b10Nums r6.2.2.2.1 r3.2.2.1) fun r8 =>
        sif (!r8) (some false) <|
        sbind (laws_b10Nums r6.2.2.2.2 r3.2.2.2) fun r9 =>
        sif (!r9) (some false) <|
        sbind (spec_DrawDecodeNode more) fun r10 =>
        sbind (impl_DecodeNode r10) fun r11 =>
        sif (!r11.2.1) (some true) <|
        sbind (spec_ValidNode r11.1 r11.2.2.1 r11.2.2.2.1 r11.2.2.2.2) fun r12 =>
        sif (r12)
         (sbind (impl_EncodeNode r11.1 r11.2.2.1 r11.2.2.2.1 r11.2.2.2.2) fun r13 =>
          some (seq r13 r10)) (some false)) <|
      sbind (spec_DrawDecodeNode more) fun r5 =>
      sbind (impl_DecodeNode r5) fun r6 =>
      sif (!r6.2.1) (some true) <|
      sbind (spec_ValidNode r6.1 r6.2.2.1 r6.2.2.2.1 r6.2.2.2.2) fun r7 =>
      sif (r7)
       (sbind (impl_EncodeNode r6.1 r6.2.2.1 r6.2.2.2.1 r6.2.2.2.2) fun r8 =>
        some (seq r8 r5)) (some false)) := sem_eq (f := 7) (m := 0) rfl (by kernel_rfl)
theorem laws_b10Long_eq (code : List Int) :
    laws_b10Long code = (
      some (decide ((code.length : Int) > 1048576))) := sem_eq (f := 17) (m := 0) rfl (by kernel_rfl)
theorem spec_DrawEncodeNode_eq (code : List Int) :
    spec_DrawEncodeNode code = (
      sbind (spec_l00From code) fun r1 =>
      sbind (spec_l15DrawNode_wd 5 r1.1 r1.2.1 r1.2.2) fun r2 =>
      some (r2.1, r2.2.2.2.2.1, r2.2.2.2.2.2.1, r2.2.2.2.2.2.2)) := sem_eq (f := 32) (m := 0) rfl (by kernel_rfl)
theorem spec_l00From_eq (code : List Int) :
    spec_l00From code = (
      some (code, 0, 0)) := sem_eq (f := 43) (m := 0) rfl (by kernel_rfl)
theorem spec_l15DrawNode_wd_eq (n : Int) (s_code : List Int) (s_at : Int) (s_seed : Int) :
    spec_l15DrawNode_wd n s_code s_at s_seed = (
      sbind (spec_l00Src_one_wd 2 s_code s_at s_seed) fun r1 =>
      sbind (spec_l00Src_pick_wd 9 r1.2.1 r1.2.2.1 r1.2.2.2) fun r2 =>
      spec_l15DrawNode_wd_l4 n 0 r2.1 r2.2.1 r2.2.2.1 r2.2.2.2 false r1.1 ([] : List (Int × Int × Int × Int)) ([] : List Int) ([] : List Int) ([] : List (Int × Int × Int × Int)) ([] : List Int) ([] : List Int)) := sem_eq (f := 87) (m := 0) rfl (by kernel_rfl)
theorem spec_l15DrawNode_wd_l4_eq (n : Int) (at_ : Int) (k : Int) (s_code : List Int) (s_at : Int) (s_seed : Int) (t4_Leaf : Bool) (out_Leaf : Bool) (t4_Chunks : List (Int × Int × Int × Int)) (t4_Keys : List Int) (t4_Kids : List Int) (out_Chunks : List (Int × Int × Int × Int)) (out_Keys : List Int) (out_Kids : List Int) :
    spec_l15DrawNode_wd_l4 n at_ k s_code s_at s_seed t4_Leaf out_Leaf t4_Chunks t4_Keys t4_Kids out_Chunks out_Keys out_Kids = (
      sif (decide (k > 0))
       (sbind (spec_l00Src_pick_wd 300 s_code s_at s_seed) fun r1 =>
        sif (out_Leaf)
         (sbind (spec_l15DrawChunk_wd r1.2.1 r1.2.2.1 r1.2.2.2) fun r2 =>
          sif (room (out_Chunks.length + 1) 32)
           (spec_l15DrawNode_wd_l4 n (wi64 (at_ + (wi64 (1 + r1.1)))) (wi64 (k - 1)) r2.2.2.2.2.1 r2.2.2.2.2.2.1 r2.2.2.2.2.2.2 t4_Leaf out_Leaf t4_Chunks t4_Keys t4_Kids (out_Chunks ++ [(wi64 (at_ + (wi64 (1 + r1.1))), r2.2.1, r2.2.2.1, r2.2.2.2.1)]) out_Keys out_Kids) (none)) <|
        sif (room (out_Keys.length + 1) 8)
         (sbind (spec_l00Src_pick_wd 255 r1.2.1 r1.2.2.1 r1.2.2.2) fun r2 =>
          sif (room (out_Kids.length + 1) 8)
           (spec_l15DrawNode_wd_l4 n (wi64 (at_ + (wi64 (1 + r1.1)))) (wi64 (k - 1)) r2.2.1 r2.2.2.1 r2.2.2.2 t4_Leaf out_Leaf t4_Chunks t4_Keys t4_Kids out_Chunks (out_Keys ++ [wi64 (at_ + (wi64 (1 + r1.1)))]) (out_Kids ++ [wi64 (1 + r2.1)])) (none)) (none)) <|
      sif (!out_Leaf)
       (sbind (spec_l00Src_pick_wd 255 s_code s_at s_seed) fun r1 =>
        sif (room (out_Kids.length + 1) 8)
         (sbind (spec_l00Src_one_wd n r1.2.1 r1.2.2.1 r1.2.2.2) fun r2 =>
          sif (!r2.1)
           (some (out_Leaf, r2.2.1, r2.2.2.1, r2.2.2.2, out_Chunks, out_Keys, out_Kids ++ [wi64 (1 + r1.1)])) <|
          sbind (spec_l00Src_pick_wd 5 r2.2.1 r2.2.2.1 r2.2.2.2) fun r3 =>
          sif ((r3.1 == 0))
           (some (!out_Leaf, r3.2.1, r3.2.2.1, r3.2.2.2, out_Chunks, out_Keys, out_Kids ++ [wi64 (1 + r1.1)])) <|
          sif ((r3.1 == 1))
           (sbind (spec_l00Src_pick_wd 300 r3.2.1 r3.2.2.1 r3.2.2.2) fun r4 =>
            sif (room (out_Keys.length + 1) 8)
             (some (out_Leaf, r4.2.1, r4.2.2.1, r4.2.2.2, out_Chunks, out_Keys ++ [r4.1], out_Kids ++ [wi64 (1 + r1.1)])) (none)) <|
          sif ((r3.1 == 2))
           (sbind (spec_l00Src_among_wdd ([0, 256, 3] : List Int) r3.2.1 r3.2.2.1 r3.2.2.2) fun r4 =>
            sif (room (((out_Kids ++ [wi64 (1 + r1.1)]).length) + 1) 8)
             (some (out_Leaf, r4.2.1, r4.2.2.1, r4.2.2.2, out_Chunks, out_Keys, (out_Kids ++ [wi64 (1 + r1.1)]) ++ [r4.1])) (none)) <|
          sif ((r3.1 == 3))
           (sbind (spec_l00Src_among_wdd ([(-1), 65536, 65535] : List Int) r3.2.1 r3.2.2.1 r3.2.2.2) fun r4 =>
            sbind (spec_l00Src_pick_wd 2 r4.2.1 r4.2.2.1 r4.2.2.2) fun r5 =>
            sbind (spec_l00Src_among_wdd ([65535, 65536] : List Int) r5.2.1 r5.2.2.1 r5.2.2.2) fun r6 =>
            sif (room (out_Chunks.length + 1) 32)
             (some (out_Leaf, r6.2.1, r6.2.2.1, r6.2.2.2, out_Chunks ++ [(r4.1, r5.1, r6.1, 0)], out_Keys, out_Kids ++ [wi64 (1 + r1.1)])) (none)) <|
          spec_l15DrawNode_wd_l19 0 r3.2.1 r3.2.2.1 r3.2.2.2 t4_Leaf out_Leaf t4_Chunks t4_Keys t4_Kids out_Chunks out_Keys (out_Kids ++ [wi64 (1 + r1.1)])) (none)) <|
      sbind (spec_l00Src_one_wd n s_code s_at s_seed) fun r1 =>
      sif (!r1.1) (some (out_Leaf, r1.2.1, r1.2.2.1, r1.2.2.2, out_Chunks, out_Keys, out_Kids)) <|
      sbind (spec_l00Src_pick_wd 5 r1.2.1 r1.2.2.1 r1.2.2.2) fun r2 =>
      sif ((r2.1 == 0)) (some (!out_Leaf, r2.2.1, r2.2.2.1, r2.2.2.2, out_Chunks, out_Keys, out_Kids)) <|
      sif ((r2.1 == 1))
       (sbind (spec_l00Src_pick_wd 300 r2.2.1 r2.2.2.1 r2.2.2.2) fun r3 =>
        sif (room (out_Keys.length + 1) 8) (some (out_Leaf, r3.2.1, r3.2.2.1, r3.2.2.2, out_Chunks, out_Keys ++ [r3.1], out_Kids)) (none)) <|
      sif ((r2.1 == 2))
       (sbind (spec_l00Src_among_wdd ([0, 256, 3] : List Int) r2.2.1 r2.2.2.1 r2.2.2.2) fun r3 =>
        sif (room (out_Kids.length + 1) 8) (some (out_Leaf, r3.2.1, r3.2.2.1, r3.2.2.2, out_Chunks, out_Keys, out_Kids ++ [r3.1])) (none)) <|
      sif ((r2.1 == 3))
       (sbind (spec_l00Src_among_wdd ([(-1), 65536, 65535] : List Int) r2.2.1 r2.2.2.1 r2.2.2.2) fun r3 =>
        sbind (spec_l00Src_pick_wd 2 r3.2.1 r3.2.2.1 r3.2.2.2) fun r4 =>
        sbind (spec_l00Src_among_wdd ([65535, 65536] : List Int) r4.2.1 r4.2.2.1 r4.2.2.2) fun r5 =>
        sif (room (out_Chunks.length + 1) 32)
         (some (out_Leaf, r5.2.1, r5.2.2.1, r5.2.2.2, out_Chunks ++ [(r3.1, r4.1, r5.1, 0)], out_Keys, out_Kids)) (none)) <|
      spec_l15DrawNode_wd_l19 0 r2.2.1 r2.2.2.1 r2.2.2.2 t4_Leaf out_Leaf t4_Chunks t4_Keys t4_Kids out_Chunks out_Keys out_Kids) := seml_eq (f := 87) (m := 0) (l := 4) (by kernel_rfl)
theorem spec_l15DrawNode_wd_l19_eq (k : Int) (b_0_code : List Int) (b_0_at : Int) (b_0_seed : Int) (t4_Leaf : Bool) (out_Leaf : Bool) (t4_Chunks : List (Int × Int × Int × Int)) (t4_Keys : List Int) (t4_Kids : List Int) (out_Chunks : List (Int × Int × Int × Int)) (out_Keys : List Int) (out_Kids : List Int) :
    spec_l15DrawNode_wd_l19 k b_0_code b_0_at b_0_seed t4_Leaf out_Leaf t4_Chunks t4_Keys t4_Kids out_Chunks out_Keys out_Kids = (
      sif (decide (k < 9))
       (sif (room (out_Chunks.length + 1) 32)
         (spec_l15DrawNode_wd_l19 (wi64 (k + 1)) b_0_code b_0_at b_0_seed t4_Leaf out_Leaf t4_Chunks t4_Keys t4_Kids (out_Chunks ++ [(wi64 (60000 + k), 3, 0, 0)]) out_Keys out_Kids) (none)) <|
      some (out_Leaf, b_0_code, b_0_at, b_0_seed, out_Chunks, out_Keys, out_Kids)) := seml_eq (f := 87) (m := 0) (l := 19) (by kernel_rfl)
theorem spec_l00Src_one_wd_eq (n : Int) (s_code : List Int) (s_at : Int) (s_seed : Int) :
    spec_l00Src_one_wd n s_code s_at s_seed = (
      sbind (spec_l00Src_pick_wd n s_code s_at s_seed) fun r1 =>
      some ((r1.1 == 0), r1.2.1, r1.2.2.1, r1.2.2.2)) := sem_eq (f := 63) (m := 0) rfl (by kernel_rfl)
theorem spec_l00Src_pick_wd_eq (n : Int) (s_code : List Int) (s_at : Int) (s_seed : Int) :
    spec_l00Src_pick_wd n s_code s_at s_seed = (
      sif (decide (n ≤ 1)) (some (0, s_code, s_at, s_seed)) <|
      sbind (spec_l00Src_next_wd s_code s_at s_seed) fun r1 =>
      sif (decide (n > 200))
       (sbind (spec_l00Src_next_wd r1.2.1 r1.2.2.1 r1.2.2.2) fun r2 =>
        sif (decide (n = 0)) (none) <|
        some (Int.tmod (wi64 ((wi64 (r1.1 * 256)) + r2.1)) n, r2.2.1, r2.2.2.1, r2.2.2.2)) <|
      sif (decide (n = 0)) (none) (some (Int.tmod r1.1 n, r1.2.1, r1.2.2.1, r1.2.2.2))) := sem_eq (f := 93) (m := 0) rfl (by kernel_rfl)
theorem spec_l00Src_next_wd_eq (s_code : List Int) (s_at : Int) (s_seed : Int) :
    spec_l00Src_next_wd s_code s_at s_seed = (
      sif (decide (s_at < (s_code.length : Int)))
       (sbind (idx s_code s_at) fun x1 =>
        sif (decide (wi64 (s_at + 1) ≤ (s_code.length : Int)))
         (some (wi64 x1, s_code, wi64 (s_at + 1), wu64 ((wu64 ((wu64 (s_seed * 6364136223846793005)) + (wu64 (wi64 x1)))) + 1442695040888963407))) <|
        some (wi64 (bits .and .u64 (Int.fdiv (wu64 ((wu64 ((wu64 (s_seed * 6364136223846793005)) + (wu64 (wi64 x1)))) + 1442695040888963407)) (2 ^ 40)) 255), s_code, wi64 (s_at + 1), wu64 ((wu64 ((wu64 (s_seed * 6364136223846793005)) + (wu64 (wi64 x1)))) + 1442695040888963407))) <|
      sif (decide (wi64 (s_at + 1) ≤ (s_code.length : Int)))
       (some (0, s_code, wi64 (s_at + 1), wu64 ((wu64 ((wu64 (s_seed * 6364136223846793005)) + 0)) + 1442695040888963407))) <|
      some (wi64 (bits .and .u64 (Int.fdiv (wu64 ((wu64 ((wu64 (s_seed * 6364136223846793005)) + 0)) + 1442695040888963407)) (2 ^ 40)) 255), s_code, wi64 (s_at + 1), wu64 ((wu64 ((wu64 (s_seed * 6364136223846793005)) + 0)) + 1442695040888963407))) := sem_eq (f := 94) (m := 0) rfl (by kernel_rfl)
theorem spec_l15DrawChunk_wd_eq (s_code : List Int) (s_at : Int) (s_seed : Int) :
    spec_l15DrawChunk_wd s_code s_at s_seed = (
      sbind (spec_l00Src_pick_wd 60 s_code s_at s_seed) fun r1 =>
      sbind (spec_l00Src_among_wdd ([1, 1, 16, 256] : List Int) r1.2.1 r1.2.2.1 r1.2.2.2) fun r2 =>
      sbind (spec_l00Src_pick_wd 200 r2.2.1 r2.2.2.1 r2.2.2.2) fun r3 =>
      sbind (spec_l00Src_pick_wd 500 r3.2.1 r3.2.2.1 r3.2.2.2) fun r4 =>
      sbind (spec_l00Src_pick_wd 4 r4.2.1 r4.2.2.1 r4.2.2.2) fun r5 =>
      some (wi64 (r1.1 * r2.1), wi64 (1 + r3.1), r4.1, r5.1, r5.2.1, r5.2.2.1, r5.2.2.2)) := sem_eq (f := 133) (m := 0) rfl (by kernel_rfl)
theorem spec_l00Src_among_wdd_eq (list : List Int) (s_code : List Int) (s_at : Int) (s_seed : Int) :
    spec_l00Src_among_wdd list s_code s_at s_seed = (
      sbind (spec_l00Src_pick_wd (list.length : Int) s_code s_at s_seed) fun r1 =>
      sbind (idx list r1.1) fun x2 =>
      some (x2, r1.2.1, r1.2.2.1, r1.2.2.2)) := sem_eq (f := 115) (m := 0) rfl (by kernel_rfl)
theorem spec_ValidNode_eq (n_Leaf : Bool) (n_Chunks : List (Int × Int × Int × Int)) (n_Keys : List Int) (n_Kids : List Int) :
    spec_ValidNode n_Leaf n_Chunks n_Keys n_Kids = (
      sbind (spec_l15Node n_Leaf n_Chunks n_Keys n_Kids) fun r1 =>
      some r1) := sem_eq (f := 33) (m := 0) rfl (by kernel_rfl)
theorem spec_l15Node_eq (n_Leaf : Bool) (n_Chunks : List (Int × Int × Int × Int)) (n_Keys : List Int) (n_Kids : List Int) :
    spec_l15Node n_Leaf n_Chunks n_Keys n_Kids = (
      sif (n_Leaf) (spec_l15Node_l3 0 n_Leaf n_Chunks n_Keys n_Kids) <|
      sbind (spec_l00In (n_Keys.length : Int) 1 7) fun r1 =>
      sif (!r1) (some false) <|
      sif (((n_Kids.length : Int) != (wi64 ((n_Keys.length : Int) + 1)))) (some false) <|
      sif (((n_Chunks.length : Int) != 0)) (some false) <|
      sbind (spec_l00Rises n_Keys 0 65535) fun r2 =>
      sif (!r2) (some false) (spec_l15Node_l11 0 n_Leaf n_Chunks n_Keys n_Kids)) := sem_eq (f := 88) (m := 0) rfl (by kernel_rfl)
theorem spec_l15Node_l3_eq (i : Int) (n_Leaf : Bool) (n_Chunks : List (Int × Int × Int × Int)) (n_Keys : List Int) (n_Kids : List Int) :
    spec_l15Node_l3 i n_Leaf n_Chunks n_Keys n_Kids = (
      sif (decide (i < (n_Chunks.length : Int)))
       (sif (decide (i ≤ 8))
         (sbind (idx n_Chunks i) fun x1 =>
          sbind (spec_l15Chunk x1.1 x1.2.1 x1.2.2.1 x1.2.2.2) fun r2 =>
          sif (!r2) (some false) <|
          sif (decide (i > 0))
           (sbind (idx n_Chunks (wi64 (i - 1))) fun x3 =>
            sbind (idx n_Chunks i) fun x4 =>
            sif (decide (x3.1 ≥ x4.1)) (some false) <|
            spec_l15Node_l3 (wi64 (i + 1)) n_Leaf n_Chunks n_Keys n_Kids) <|
          spec_l15Node_l3 (wi64 (i + 1)) n_Leaf n_Chunks n_Keys n_Kids) <|
        sif (decide ((n_Chunks.length : Int) ≤ 8)) (sif (((n_Keys.length : Int) == 0)) (some ((n_Kids.length : Int) == 0)) (some false)) (some false)) <|
      sif (decide ((n_Chunks.length : Int) ≤ 8)) (sif (((n_Keys.length : Int) == 0)) (some ((n_Kids.length : Int) == 0)) (some false)) (some false)) := seml_eq (f := 88) (m := 0) (l := 3) (by kernel_rfl)
theorem spec_l15Node_l11_eq (i : Int) (n_Leaf : Bool) (n_Chunks : List (Int × Int × Int × Int)) (n_Keys : List Int) (n_Kids : List Int) :
    spec_l15Node_l11 i n_Leaf n_Chunks n_Keys n_Kids = (
      sif (decide (i < (n_Kids.length : Int)))
       (sbind (idx n_Kids i) fun x1 =>
        sbind (spec_l00In x1 1 255) fun r2 =>
        sif (!r2) (some false) <|
        spec_l15Node_l11 (wi64 (i + 1)) n_Leaf n_Chunks n_Keys n_Kids) (some true)) := seml_eq (f := 88) (m := 0) (l := 11) (by kernel_rfl)
theorem spec_l00In_eq (n : Int) (low : Int) (high : Int) :
    spec_l00In n low high = (
      sif (decide (n ≥ low)) (some (decide (n ≤ high))) (some false)) := sem_eq (f := 53) (m := 0) rfl (by kernel_rfl)
theorem spec_l00Rises_eq (list : List Int) (low : Int) (high : Int) :
    spec_l00Rises list low high = (
      spec_l00Rises_l2 list low high 0) := sem_eq (f := 135) (m := 0) rfl (by kernel_rfl)
theorem spec_l00Rises_l2_eq (list : List Int) (low : Int) (high : Int) (i : Int) :
    spec_l00Rises_l2 list low high i = (
      sif (decide (i < (list.length : Int)))
       (sbind (idx list i) fun x1 =>
        sbind (spec_l00In x1 low high) fun r2 =>
        sif (!r2) (some false) <|
        sif (decide (i > 0))
         (sbind (idx list (wi64 (i - 1))) fun x3 =>
          sbind (idx list i) fun x4 =>
          sif (decide (x3 ≥ x4)) (some false) (spec_l00Rises_l2 list low high (wi64 (i + 1)))) (spec_l00Rises_l2 list low high (wi64 (i + 1)))) (some true)) := seml_eq (f := 135) (m := 0) (l := 2) (by kernel_rfl)
theorem spec_l15Chunk_eq (c_Key : Int) (c_At : Int) (c_Size : Int) (c_Mask : Int) :
    spec_l15Chunk c_Key c_At c_Size c_Mask = (
      sbind (spec_l00In c_Key 0 65535) fun r1 =>
      sif (r1)
       (sbind (spec_l00In c_At 1 255) fun r2 =>
        sif (r2)
         (sbind (spec_l00In c_Size 0 65535) fun r3 =>
          sif (r3)
           (sbind (spec_l00In c_Mask 0 255) fun r4 =>
            some r4) (some false)) (some false)) (some false)) := sem_eq (f := 134) (m := 0) rfl (by kernel_rfl)
theorem impl_EncodeNode_eq (n_Leaf : Bool) (n_Chunks : List (Int × Int × Int × Int)) (n_Keys : List Int) (n_Kids : List Int) :
    impl_EncodeNode n_Leaf n_Chunks n_Keys n_Kids = (
      sbind (impl_ValidNode n_Leaf n_Chunks n_Keys n_Kids) fun r1 =>
      sif (!r1) (some (bs [])) <|
      sbind (impl_Node_encode n_Leaf n_Chunks n_Keys n_Kids) fun r2 =>
      some r2) := sem_eq (f := 35) (m := 0) rfl (by kernel_rfl)
theorem impl_ValidNode_eq (n_Leaf : Bool) (n_Chunks : List (Int × Int × Int × Int)) (n_Keys : List Int) (n_Kids : List Int) :
    impl_ValidNode n_Leaf n_Chunks n_Keys n_Kids = (
      sif (n_Leaf)
       (sif (((n_Keys.length : Int) == 0))
         (sif (((n_Kids.length : Int) == 0))
           (sif (decide ((n_Chunks.length : Int) ≤ 8))
             (sbind (impl_keysOf n_Chunks) fun r1 =>
              sbind (impl_increasing r1) fun r2 =>
              sif (r2)
               (sbind (slices_ContainsFunc_simpl_Chunk_impl_Chunk_d_ValidNode_1 n_Chunks) fun r3 =>
                some !r3) (some false)) (some false)) (some false)) (some false)) <|
      sif (((n_Chunks.length : Int) == 0))
       (sbind (impl_within (n_Keys.length : Int) 1 7) fun r1 =>
        sif (r1)
         (sbind (impl_increasing n_Keys) fun r2 =>
          sif (r2)
           (sbind (impl_allWithin n_Keys 0 65535) fun r3 =>
            sif (r3)
             (sif (((n_Kids.length : Int) == (wi64 ((n_Keys.length : Int) + 1))))
               (sbind (impl_allWithin n_Kids 1 255) fun r4 =>
                some r4) (some false)) (some false)) (some false)) (some false)) (some false)) := sem_eq (f := 90) (m := 0) rfl (by kernel_rfl)
theorem impl_keysOf_eq (list : List (Int × Int × Int × Int)) :
    impl_keysOf list = (
      impl_keysOf_l3 list (list.length : Int) 0 ([] : List Int)) := sem_eq (f := 137) (m := 0) rfl (by kernel_rfl)
theorem impl_keysOf_l3_eq (t6 : List (Int × Int × Int × Int)) (t7 : Int) (t8 : Int) (out : List Int) :
    impl_keysOf_l3 t6 t7 t8 out = (
      sif (decide (t8 < t7))
       (sbind (idx t6 t8) fun x1 =>
        sif (room (out.length + 1) 8) (impl_keysOf_l3 t6 t7 (wi64 (t8 + 1)) (out ++ [x1.1])) (none)) (some out)) := seml_eq (f := 137) (m := 0) (l := 3) (by kernel_rfl)
theorem impl_increasing_eq (list : List Int) :
    impl_increasing list = (
      impl_increasing_l2 list 1) := sem_eq (f := 136) (m := 0) rfl (by kernel_rfl)
theorem impl_increasing_l2_eq (list : List Int) (i : Int) :
    impl_increasing_l2 list i = (
      sif (decide (i < (list.length : Int)))
       (sbind (idx list i) fun x1 =>
        sbind (idx list (wi64 (i - 1))) fun x2 =>
        sif (decide (x1 ≤ x2)) (some false) (impl_increasing_l2 list (wi64 (i + 1)))) (some true)) := seml_eq (f := 136) (m := 0) (l := 2) (by kernel_rfl)
theorem slices_ContainsFunc_simpl_Chunk_impl_Chunk_d_ValidNode_1_eq (s : List (Int × Int × Int × Int)) :
    slices_ContainsFunc_simpl_Chunk_impl_Chunk_d_ValidNode_1 s = (
      sbind (slices_IndexFunc_simpl_Chunk_impl_Chunk_d_ValidNode_1 s) fun r1 =>
      some (decide (r1 ≥ 0))) := sem_eq (f := 138) (m := 0) rfl (by kernel_rfl)
theorem slices_IndexFunc_simpl_Chunk_impl_Chunk_d_ValidNode_1_eq (s : List (Int × Int × Int × Int)) :
    slices_IndexFunc_simpl_Chunk_impl_Chunk_d_ValidNode_1 s = (
      slices_IndexFunc_simpl_Chunk_impl_Chunk_d_ValidNode_1_l2 s (s.length : Int) 0) := sem_eq (f := 160) (m := 0) rfl (by kernel_rfl)
theorem slices_IndexFunc_simpl_Chunk_impl_Chunk_d_ValidNode_1_l2_eq (s : List (Int × Int × Int × Int)) (t7 : Int) (t8 : Int) :
    slices_IndexFunc_simpl_Chunk_impl_Chunk_d_ValidNode_1_l2 s t7 t8 = (
      sif (decide (t8 < t7))
       (sbind (idx s t8) fun x1 =>
        sbind (impl_ValidNode_1 x1.1 x1.2.1 x1.2.2.1 x1.2.2.2) fun r2 =>
        sif (r2) (some t8) <|
        slices_IndexFunc_simpl_Chunk_impl_Chunk_d_ValidNode_1_l2 s t7 (wi64 (t8 + 1))) (some (-1))) := seml_eq (f := 160) (m := 0) (l := 2) (by kernel_rfl)
theorem impl_ValidNode_1_eq (c_Key : Int) (c_At : Int) (c_Size : Int) (c_Mask : Int) :
    impl_ValidNode_1 c_Key c_At c_Size c_Mask = (
      sbind (impl_chunkOk c_Key c_At c_Size c_Mask) fun r1 =>
      some !r1) := sem_eq (f := 139) (m := 0) rfl (by kernel_rfl)
theorem impl_chunkOk_eq (c_Key : Int) (c_At : Int) (c_Size : Int) (c_Mask : Int) :
    impl_chunkOk c_Key c_At c_Size c_Mask = (
      sbind (impl_within c_Key 0 65535) fun r1 =>
      sif (r1)
       (sbind (impl_within c_At 1 255) fun r2 =>
        sif (r2)
         (sbind (impl_within c_Size 0 65535) fun r3 =>
          sif (r3)
           (sbind (impl_within c_Mask 0 255) fun r4 =>
            some r4) (some false)) (some false)) (some false)) := sem_eq (f := 140) (m := 0) rfl (by kernel_rfl)
theorem impl_within_eq (n : Int) (low : Int) (high : Int) :
    impl_within n low high = (
      sif (decide (n ≥ low)) (some (decide (n ≤ high))) (some false)) := sem_eq (f := 49) (m := 0) rfl (by kernel_rfl)
theorem impl_allWithin_eq (list : List Int) (low : Int) (high : Int) :
    impl_allWithin list low high = (
      sbind (slices_ContainsFunc_sint64_int64_d_allWithin_1 list low high) fun r1 =>
      some !r1) := sem_eq (f := 80) (m := 0) rfl (by kernel_rfl)
theorem slices_ContainsFunc_sint64_int64_d_allWithin_1_eq (s : List Int) (c0 : Int) (c1 : Int) :
    slices_ContainsFunc_sint64_int64_d_allWithin_1 s c0 c1 = (
      sbind (slices_IndexFunc_sint64_int64_d_allWithin_1 s c0 c1) fun r1 =>
      some (decide (r1 ≥ 0))) := sem_eq (f := 129) (m := 0) rfl (by kernel_rfl)
theorem slices_IndexFunc_sint64_int64_d_allWithin_1_eq (s : List Int) (c0 : Int) (c1 : Int) :
    slices_IndexFunc_sint64_int64_d_allWithin_1 s c0 c1 = (
      slices_IndexFunc_sint64_int64_d_allWithin_1_l2 s (s.length : Int) 0 c0 c1) := sem_eq (f := 159) (m := 0) rfl (by kernel_rfl)
theorem slices_IndexFunc_sint64_int64_d_allWithin_1_l2_eq (s : List Int) (t7 : Int) (t8 : Int) (c0 : Int) (c1 : Int) :
    slices_IndexFunc_sint64_int64_d_allWithin_1_l2 s t7 t8 c0 c1 = (
      sif (decide (t8 < t7))
       (sbind (idx s t8) fun x1 =>
        sbind (impl_allWithin_1 x1 c0 c1) fun r2 =>
        sif (r2) (some t8) <|
        slices_IndexFunc_sint64_int64_d_allWithin_1_l2 s t7 (wi64 (t8 + 1)) c0 c1) (some (-1))) := seml_eq (f := 159) (m := 0) (l := 2) (by kernel_rfl)
theorem impl_allWithin_1_eq (n : Int) (t1 : Int) (t2 : Int) :
    impl_allWithin_1 n t1 t2 = (
      sbind (impl_within n t1 t2) fun r1 =>
      some !r1) := sem_eq (f := 130) (m := 0) rfl (by kernel_rfl)
theorem impl_Node_encode_eq (n_Leaf : Bool) (n_Chunks : List (Int × Int × Int × Int)) (n_Keys : List Int) (n_Kids : List Int) :
    impl_Node_encode n_Leaf n_Chunks n_Keys n_Kids = (
      sif (!n_Leaf)
       (sbind (impl_putBytes 2 1) fun r1 =>
        sbind (impl_putBytes (n_Keys.length : Int) 1) fun r2 =>
        sif (joins r1 r2)
         (sbind (impl_putPairs n_Kids) fun r3 =>
          sif (joins (r1 ++ r2) r3)
           (sbind (impl_putPairs n_Keys) fun r4 =>
            sif (joins ((r1 ++ r2) ++ r3) r4)
             (sbind (impl_padded (((r1 ++ r2) ++ r3) ++ r4) 64) fun r5 =>
              some r5) (none)) (none)) (none)) <|
      sbind (impl_putBytes 1 1) fun r1 =>
      sbind (impl_putBytes (n_Chunks.length : Int) 1) fun r2 =>
      sif (joins r1 r2) (impl_Node_encode_l5 (r1 ++ r2) n_Chunks (n_Chunks.length : Int) 0) (none)) := sem_eq (f := 91) (m := 0) rfl (by kernel_rfl)
theorem impl_Node_encode_l5_eq (out : ByteArray) (t31 : List (Int × Int × Int × Int)) (t32 : Int) (t33 : Int) :
    impl_Node_encode_l5 out t31 t32 t33 = (
      sif (decide (t33 < t32))
       (sbind (idx t31 t33) fun x1 =>
        sbind (impl_putPairs [x1.1, x1.2.1, x1.2.2.1]) fun r2 =>
        sbind (impl_putBytes x1.2.2.2 1) fun r3 =>
        sif (joins r2 r3)
         (sif (joins out (r2 ++ r3)) (impl_Node_encode_l5 (out ++ (r2 ++ r3)) t31 t32 (wi64 (t33 + 1))) (none)) (none)) <|
      sbind (impl_padded out 64) fun r1 =>
      some r1) := seml_eq (f := 91) (m := 0) (l := 5) (by kernel_rfl)
theorem impl_putBytes_eq (n : Int) (size : Int) :
    impl_putBytes n size = (
      sif (le3 0 size size && room size.toNat 1)
       (impl_putBytes_l3 n ((List.replicate size.toNat (0 : Int)).length : Int) 0 (List.replicate size.toNat (0 : Int))) (none)) := sem_eq (f := 102) (m := 0) rfl (by kernel_rfl)
theorem impl_putBytes_l3_eq (n : Int) (t10 : Int) (t11 : Int) (out : List Int) :
    impl_putBytes_l3 n t10 t11 out = (
      sif (decide (t11 < t10))
       (sif (decide (wi64 (8 * t11) < 0)) (none) <|
        sif (lt3 0 t11 (out.length : Int))
         (impl_putBytes_l3 n t10 (wi64 (t11 + 1)) (out.set t11.toNat (wu8 (Int.fdiv n (2 ^ (min (wi64 (8 * t11)).toNat 64)))))) (none)) (some (toB out))) := seml_eq (f := 102) (m := 0) (l := 3) (by kernel_rfl)
theorem impl_putPairs_eq (list : List Int) :
    impl_putPairs list = (
      impl_putPairs_l3 list (list.length : Int) 0 ([] : List Int)) := sem_eq (f := 142) (m := 0) rfl (by kernel_rfl)
theorem impl_putPairs_l3_eq (t6 : List Int) (t7 : Int) (t8 : Int) (b_buf : List Int) :
    impl_putPairs_l3 t6 t7 t8 b_buf = (
      sif (decide (t8 < t7))
       (sbind (idx t6 t8) fun x1 =>
        sbind (impl_putBytes x1 2) fun r2 =>
        sbind (strings_Builder_WriteString_wv r2 b_buf) fun r3 =>
        impl_putPairs_l3 t6 t7 (wi64 (t8 + 1)) r3.2) <|
      sbind (strings_Builder_String b_buf) fun r1 =>
      some r1) := seml_eq (f := 142) (m := 0) (l := 3) (by kernel_rfl)
theorem strings_Builder_WriteString_wv_eq (s : ByteArray) (b_buf : List Int) :
    strings_Builder_WriteString_wv s b_buf = (
      sbind (strings_Builder_copyCheck ()) fun r1 =>
      sif (room (b_buf.length + ((ofB s).length)) 1) (some ((s.size : Int), b_buf ++ (ofB s))) (none)) := sem_eq (f := 100) (m := 0) rfl (by kernel_rfl)
theorem strings_Builder_copyCheck_eq : strings_Builder_copyCheck () = some () := ext_eq (E := E) (f := 146) (m := 0) (g := fun (_ : Unit) => (some () : Option Unit)) (by kernel_rfl) ()
theorem strings_Builder_String_eq (x0 : List Int) : strings_Builder_String x0 = textB x0 := ext_eq (E := E) (f := 103) (m := 0) (g := fun (d : List Int) => (textB (d) : Option (ByteArray))) (by kernel_rfl) (x0)
theorem impl_padded_eq (s : ByteArray) (n : Int) :
    impl_padded s n = (
      sbind (impl_zeros (wi64 (n - (s.size : Int)))) fun r1 =>
      sif (joins s r1) (some (s ++ r1)) (none)) := sem_eq (f := 141) (m := 0) rfl (by kernel_rfl)
theorem impl_zeros_eq (n : Int) :
    impl_zeros n = (
      sbind (strings_Repeat (bs [0]) n) fun r1 =>
      some r1) := sem_eq (f := 161) (m := 0) rfl (by kernel_rfl)
theorem strings_Repeat_eq (x0 : ByteArray) (x1 : Int) : strings_Repeat x0 x1 = repeatB x0 x1 := ext_eq (E := E) (f := 165) (m := 0) (g := fun (d : ByteArray × Int) => (repeatB (d.1) (d.2) : Option (ByteArray))) (by kernel_rfl) (x0, x1)
theorem impl_DecodeNode_eq (block : ByteArray) :
    impl_DecodeNode block = (
      sbind (impl_isBlock block) fun r1 =>
      sif (!r1) (some (false, false, ([] : List (Int × Int × Int × Int)), ([] : List Int), ([] : List Int))) <|
      sbind (impl_decoder_byte_w block false) fun r2 =>
      sbind (impl_decoder_byte_w r2.2.1 r2.2.2) fun r3 =>
      sif ((r2.1 == 1))
       (impl_DecodeNode_l8 block r3.1 0 false r3.2.1 r3.2.2 (r2.1 == 1) ([] : List (Int × Int × Int × Int)) ([] : List Int) ([] : List Int) ([] : List (Int × Int × Int × Int)) ([] : List Int) ([] : List Int)) <|
      sbind (impl_decoder_pairs_w (wi64 (r3.1 + 1)) r3.2.1 r3.2.2) fun r4 =>
      sbind (impl_decoder_pairs_w r3.1 r4.1 r4.2.1) fun r5 =>
      sif (r5.2.1) (some (false, false, ([] : List (Int × Int × Int × Int)), ([] : List Int), ([] : List Int))) <|
      sbind (impl_ValidNode (r2.1 == 1) ([] : List (Int × Int × Int × Int)) r5.2.2 r4.2.2) fun r6 =>
      sif (!r6) (some (false, false, ([] : List (Int × Int × Int × Int)), ([] : List Int), ([] : List Int))) <|
      sbind (impl_Node_encode (r2.1 == 1) ([] : List (Int × Int × Int × Int)) r5.2.2 r4.2.2) fun r7 =>
      sif (!seq r7 block) (some (false, false, ([] : List (Int × Int × Int × Int)), ([] : List Int), ([] : List Int))) <|
      some ((r2.1 == 1), true, ([] : List (Int × Int × Int × Int)), r5.2.2, r4.2.2)) := sem_eq (f := 34) (m := 0) rfl (by kernel_rfl)
theorem impl_DecodeNode_l8_eq (block : ByteArray) (many : Int) (k : Int) (t2_Leaf : Bool) (d_rest : ByteArray) (d_bad : Bool) (n_Leaf : Bool) (t2_Chunks : List (Int × Int × Int × Int)) (t2_Keys : List Int) (t2_Kids : List Int) (n_Chunks : List (Int × Int × Int × Int)) (n_Keys : List Int) (n_Kids : List Int) :
    impl_DecodeNode_l8 block many k t2_Leaf d_rest d_bad n_Leaf t2_Chunks t2_Keys t2_Kids n_Chunks n_Keys n_Kids = (
      sif (decide (k < many))
       (sif (!d_bad)
         (sbind (impl_decoder_number_w 2 d_rest d_bad) fun r1 =>
          sbind (impl_decoder_number_w 2 r1.2.1 r1.2.2) fun r2 =>
          sbind (impl_decoder_number_w 2 r2.2.1 r2.2.2) fun r3 =>
          sbind (impl_decoder_byte_w r3.2.1 r3.2.2) fun r4 =>
          sif (room (n_Chunks.length + 1) 32)
           (impl_DecodeNode_l8 block many (wi64 (k + 1)) t2_Leaf r4.2.1 r4.2.2 n_Leaf t2_Chunks t2_Keys t2_Kids (n_Chunks ++ [(r1.1, r2.1, r3.1, r4.1)]) n_Keys n_Kids) (none)) <|
        sif (d_bad)
         (some (false, false, ([] : List (Int × Int × Int × Int)), ([] : List Int), ([] : List Int))) <|
        sbind (impl_ValidNode n_Leaf n_Chunks n_Keys n_Kids) fun r1 =>
        sif (!r1)
         (some (false, false, ([] : List (Int × Int × Int × Int)), ([] : List Int), ([] : List Int))) <|
        sbind (impl_Node_encode n_Leaf n_Chunks n_Keys n_Kids) fun r2 =>
        sif (!seq r2 block)
         (some (false, false, ([] : List (Int × Int × Int × Int)), ([] : List Int), ([] : List Int))) (some (n_Leaf, true, n_Chunks, n_Keys, n_Kids))) <|
      sif (d_bad) (some (false, false, ([] : List (Int × Int × Int × Int)), ([] : List Int), ([] : List Int))) <|
      sbind (impl_ValidNode n_Leaf n_Chunks n_Keys n_Kids) fun r1 =>
      sif (!r1) (some (false, false, ([] : List (Int × Int × Int × Int)), ([] : List Int), ([] : List Int))) <|
      sbind (impl_Node_encode n_Leaf n_Chunks n_Keys n_Kids) fun r2 =>
      sif (!seq r2 block) (some (false, false, ([] : List (Int × Int × Int × Int)), ([] : List Int), ([] : List Int))) (some (n_Leaf, true, n_Chunks, n_Keys, n_Kids))) := seml_eq (f := 34) (m := 0) (l := 8) (by kernel_rfl)
theorem impl_isBlock_eq (s : ByteArray) :
    impl_isBlock s = (
      some ((s.size : Int) == 64)) := sem_eq (f := 68) (m := 0) rfl (by kernel_rfl)
theorem impl_decoder_byte_w_eq (d_rest : ByteArray) (d_bad : Bool) :
    impl_decoder_byte_w d_rest d_bad = (
      sbind (impl_decoder_number_w 1 d_rest d_bad) fun r1 =>
      some (r1.1, r1.2.1, r1.2.2)) := sem_eq (f := 46) (m := 0) rfl (by kernel_rfl)
theorem impl_decoder_number_w_eq (size : Int) (d_rest : ByteArray) (d_bad : Bool) :
    impl_decoder_number_w size d_rest d_bad = (
      sbind (impl_decoder_take_w size d_rest d_bad) fun r1 =>
      sbind (impl_getBits r1.1) fun r2 =>
      some (wi64 r2, r1.2.1, r1.2.2)) := sem_eq (f := 48) (m := 0) rfl (by kernel_rfl)
theorem impl_decoder_take_w_eq (n : Int) (d_rest : ByteArray) (d_bad : Bool) :
    impl_decoder_take_w n d_rest d_bad = (
      sbind (impl_cut d_rest 0 n) fun r1 =>
      sif (!r1.2) (some (bs [], d_rest, true)) <|
      sif (le3 0 n (d_rest.size : Int)) (some (r1.1, d_rest.extract n.toNat d_rest.size, d_bad)) (none)) := sem_eq (f := 47) (m := 0) rfl (by kernel_rfl)
theorem impl_cut_eq (s : ByteArray) (at_ : Int) (size : Int) :
    impl_cut s at_ size = (
      sif (decide (size < 0)) (some (bs [], false)) <|
      sbind (impl_within at_ 0 (wi64 ((s.size : Int) - size))) fun r1 =>
      sif (!r1) (some (bs [], false)) <|
      sif (le3 0 (wi64 (at_ + size)) (s.size : Int))
       (sif (le3 0 at_ (wi64 (at_ + size))) (some (s.extract at_.toNat ((wi64 (at_ + size)).toNat), true)) (none)) (none)) := sem_eq (f := 104) (m := 0) rfl (by kernel_rfl)
theorem impl_getBits_eq (s : ByteArray) :
    impl_getBits s = (
      impl_getBits_l3 s 0 (s.size : Int) 0) := sem_eq (f := 105) (m := 0) rfl (by kernel_rfl)
theorem impl_getBits_l3_eq (s : ByteArray) (n : Int) (t6 : Int) (t7 : Int) :
    impl_getBits_l3 s n t6 t7 = (
      sif (decide (t7 < t6))
       (sbind (bidx s t7) fun b1 =>
        sif (decide (wi64 (8 * t7) < 0)) (none) <|
        impl_getBits_l3 s (bits .or .u64 n (wu64 ((wu64 b1) * 2 ^ (min (wi64 (8 * t7)).toNat 64)))) t6 (wi64 (t7 + 1))) (some n)) := seml_eq (f := 105) (m := 0) (l := 3) (by kernel_rfl)
theorem impl_decoder_pairs_w_eq (many : Int) (d_rest : ByteArray) (d_bad : Bool) :
    impl_decoder_pairs_w many d_rest d_bad = (
      impl_decoder_pairs_w_l3 many 0 d_rest d_bad ([] : List Int)) := sem_eq (f := 89) (m := 0) rfl (by kernel_rfl)
theorem impl_decoder_pairs_w_l3_eq (t6 : Int) (t7 : Int) (d_rest : ByteArray) (d_bad : Bool) (out : List Int) :
    impl_decoder_pairs_w_l3 t6 t7 d_rest d_bad out = (
      sif (decide (t7 < t6))
       (sbind (impl_decoder_number_w 2 d_rest d_bad) fun r1 =>
        sif (room (out.length + 1) 8) (impl_decoder_pairs_w_l3 t6 (wi64 (t7 + 1)) r1.2.1 r1.2.2 (out ++ [r1.1])) (none)) (some (d_rest, d_bad, out))) := seml_eq (f := 89) (m := 0) (l := 3) (by kernel_rfl)
theorem laws_b10Chunks_eq (a : List (Int × Int × Int × Int)) (b : List (Int × Int × Int × Int)) :
    laws_b10Chunks a b = (
      sif (((a.length : Int) != (b.length : Int))) (some false) (laws_b10Chunks_l4 a b 0)) := sem_eq (f := 36) (m := 0) rfl (by kernel_rfl)
theorem laws_b10Chunks_l4_eq (a : List (Int × Int × Int × Int)) (b : List (Int × Int × Int × Int)) (i : Int) :
    laws_b10Chunks_l4 a b i = (
      sif (decide (i < (a.length : Int)))
       (sbind (idx a i) fun x1 =>
        sbind (idx b i) fun x2 =>
        sif (!((x1.1 == x2.1) && ((x1.2.1 == x2.2.1) && ((x1.2.2.1 == x2.2.2.1) && (x1.2.2.2 == x2.2.2.2))))) (some false) (laws_b10Chunks_l4 a b (wi64 (i + 1)))) (some true)) := seml_eq (f := 36) (m := 0) (l := 4) (by kernel_rfl)
theorem laws_b10Nums_eq (a : List Int) (b : List Int) :
    laws_b10Nums a b = (
      sif (((a.length : Int) != (b.length : Int))) (some false) (laws_b10Nums_l4 a b 0)) := sem_eq (f := 37) (m := 0) rfl (by kernel_rfl)
theorem laws_b10Nums_l4_eq (a : List Int) (b : List Int) (i : Int) :
    laws_b10Nums_l4 a b i = (
      sif (decide (i < (a.length : Int)))
       (sbind (idx a i) fun x1 =>
        sbind (idx b i) fun x2 =>
        sif ((x1 != x2)) (some false) (laws_b10Nums_l4 a b (wi64 (i + 1)))) (some true)) := seml_eq (f := 37) (m := 0) (l := 4) (by kernel_rfl)
theorem spec_DrawDecodeNode_eq (code : List Int) :
    spec_DrawDecodeNode code = (
      sbind (spec_l00From code) fun r1 =>
      sbind (spec_l15DrawNode_wd 40 r1.1 r1.2.1 r1.2.2) fun r2 =>
      sbind (spec_l15Node r2.1 r2.2.2.2.2.1 r2.2.2.2.2.2.1 r2.2.2.2.2.2.2) fun r3 =>
      sif (!r3)
       (sbind (spec_l15Encode true ([] : List (Int × Int × Int × Int)) ([] : List Int) ([] : List Int)) fun r4 =>
        sbind (spec_l00Src_one_wd 2 r2.2.1 r2.2.2.1 r2.2.2.2.1) fun r5 =>
        sif (r5.1) (some r4) <|
        sbind (spec_l00Src_pick_wd 64 r5.2.1 r5.2.2.1 r5.2.2.2) fun r6 =>
        sbind (spec_l00Src_one_wd 5 r6.2.1 r6.2.2.1 r6.2.2.2) fun r7 =>
        sif (r7.1) (sif (le3 0 r6.1 (r4.size : Int)) (some (r4.extract 0 r6.1.toNat)) (none)) <|
        sif (le3 0 r6.1 (r4.size : Int))
         (sbind (spec_l00Src_next_wd r7.2.1 r7.2.2.1 r7.2.2.2) fun r8 =>
          sif (joins (r4.extract 0 r6.1.toNat) (toB [wu8 r8.1]))
           (sif (le3 0 (wi64 (r6.1 + 1)) (r4.size : Int))
             (sif (joins ((r4.extract 0 r6.1.toNat) ++ (toB [wu8 r8.1])) (r4.extract ((wi64 (r6.1 + 1)).toNat) r4.size))
               (some (((r4.extract 0 r6.1.toNat) ++ (toB [wu8 r8.1])) ++ (r4.extract ((wi64 (r6.1 + 1)).toNat) r4.size))) (none)) (none)) (none)) (none)) <|
      sbind (spec_l15Encode r2.1 r2.2.2.2.2.1 r2.2.2.2.2.2.1 r2.2.2.2.2.2.2) fun r4 =>
      sbind (spec_l00Src_one_wd 2 r2.2.1 r2.2.2.1 r2.2.2.2.1) fun r5 =>
      sif (r5.1) (some r4) <|
      sbind (spec_l00Src_pick_wd 64 r5.2.1 r5.2.2.1 r5.2.2.2) fun r6 =>
      sbind (spec_l00Src_one_wd 5 r6.2.1 r6.2.2.1 r6.2.2.2) fun r7 =>
      sif (r7.1) (sif (le3 0 r6.1 (r4.size : Int)) (some (r4.extract 0 r6.1.toNat)) (none)) <|
      sif (le3 0 r6.1 (r4.size : Int))
       (sbind (spec_l00Src_next_wd r7.2.1 r7.2.2.1 r7.2.2.2) fun r8 =>
        sif (joins (r4.extract 0 r6.1.toNat) (toB [wu8 r8.1]))
         (sif (le3 0 (wi64 (r6.1 + 1)) (r4.size : Int))
           (sif (joins ((r4.extract 0 r6.1.toNat) ++ (toB [wu8 r8.1])) (r4.extract ((wi64 (r6.1 + 1)).toNat) r4.size))
             (some (((r4.extract 0 r6.1.toNat) ++ (toB [wu8 r8.1])) ++ (r4.extract ((wi64 (r6.1 + 1)).toNat) r4.size))) (none)) (none)) (none)) (none)) := sem_eq (f := 38) (m := 0) rfl (by kernel_rfl)
theorem spec_l15Encode_eq (n_Leaf : Bool) (n_Chunks : List (Int × Int × Int × Int)) (n_Keys : List Int) (n_Kids : List Int) :
    spec_l15Encode n_Leaf n_Chunks n_Keys n_Kids = (
      sif (n_Leaf)
       (sbind (spec_l01Bytes 1 1) fun r1 =>
        sbind (spec_l01Bytes (n_Chunks.length : Int) 1) fun r2 =>
        sif (joins r1 r2) (spec_l15Encode_l5 (r1 ++ r2) 0 n_Leaf n_Chunks n_Keys n_Kids) (none)) <|
      sbind (spec_l01Bytes 2 1) fun r1 =>
      sbind (spec_l01Bytes (n_Keys.length : Int) 1) fun r2 =>
      sif (joins r1 r2) (spec_l15Encode_l12 (r1 ++ r2) 0 n_Leaf n_Chunks n_Keys n_Kids) (none)) := sem_eq (f := 92) (m := 0) rfl (by kernel_rfl)
theorem spec_l15Encode_l5_eq (t : ByteArray) (i : Int) (n_Leaf : Bool) (n_Chunks : List (Int × Int × Int × Int)) (n_Keys : List Int) (n_Kids : List Int) :
    spec_l15Encode_l5 t i n_Leaf n_Chunks n_Keys n_Kids = (
      sif (decide (i < (n_Chunks.length : Int)))
       (sbind (idx n_Chunks i) fun x1 =>
        sbind (spec_l01Bytes x1.1 2) fun r2 =>
        sbind (spec_l01Bytes x1.2.1 2) fun r3 =>
        sif (joins r2 r3)
         (sbind (spec_l01Bytes x1.2.2.1 2) fun r4 =>
          sif (joins (r2 ++ r3) r4)
           (sbind (spec_l01Bytes x1.2.2.2 1) fun r5 =>
            sif (joins ((r2 ++ r3) ++ r4) r5)
             (sif (joins t (((r2 ++ r3) ++ r4) ++ r5))
               (spec_l15Encode_l5 (t ++ (((r2 ++ r3) ++ r4) ++ r5)) (wi64 (i + 1)) n_Leaf n_Chunks n_Keys n_Kids) (none)) (none)) (none)) (none)) <|
      sbind (spec_l01Pad t 64) fun r1 =>
      some r1) := seml_eq (f := 92) (m := 0) (l := 5) (by kernel_rfl)
theorem spec_l15Encode_l12_eq (t : ByteArray) (i : Int) (n_Leaf : Bool) (n_Chunks : List (Int × Int × Int × Int)) (n_Keys : List Int) (n_Kids : List Int) :
    spec_l15Encode_l12 t i n_Leaf n_Chunks n_Keys n_Kids = (
      sif (decide (i < (n_Kids.length : Int)))
       (sbind (idx n_Kids i) fun x1 =>
        sbind (spec_l01Bytes x1 2) fun r2 =>
        sif (joins t r2) (spec_l15Encode_l12 (t ++ r2) (wi64 (i + 1)) n_Leaf n_Chunks n_Keys n_Kids) (none)) <|
      spec_l15Encode_l16 t 0 n_Leaf n_Chunks n_Keys n_Kids) := seml_eq (f := 92) (m := 0) (l := 12) (by kernel_rfl)
theorem spec_l15Encode_l16_eq (t : ByteArray) (i : Int) (n_Leaf : Bool) (n_Chunks : List (Int × Int × Int × Int)) (n_Keys : List Int) (n_Kids : List Int) :
    spec_l15Encode_l16 t i n_Leaf n_Chunks n_Keys n_Kids = (
      sif (decide (i < (n_Keys.length : Int)))
       (sbind (idx n_Keys i) fun x1 =>
        sbind (spec_l01Bytes x1 2) fun r2 =>
        sif (joins t r2) (spec_l15Encode_l16 (t ++ r2) (wi64 (i + 1)) n_Leaf n_Chunks n_Keys n_Kids) (none)) <|
      sbind (spec_l01Pad t 64) fun r1 =>
      some r1) := seml_eq (f := 92) (m := 0) (l := 16) (by kernel_rfl)
theorem spec_l01Bytes_eq (n : Int) (size : Int) :
    spec_l01Bytes n size = (
      spec_l01Bytes_l3 n size 0 ([] : List Int)) := sem_eq (f := 143) (m := 0) rfl (by kernel_rfl)
theorem spec_l01Bytes_l3_eq (n : Int) (size : Int) (k : Int) (out : List Int) :
    spec_l01Bytes_l3 n size k out = (
      sif (decide (k < size))
       (sif (decide (wu64 (8 * (wu64 k)) < 0)) (none) <|
        sif (room (out.length + 1) 1)
         (spec_l01Bytes_l3 n size (wi64 (k + 1)) (out ++ [wu8 (bits .and .i64 (Int.fdiv n (2 ^ (min (wu64 (8 * (wu64 k))).toNat 64))) 255)])) (none)) (some (toB out))) := seml_eq (f := 143) (m := 0) (l := 3) (by kernel_rfl)
theorem spec_l01Pad_eq (s : ByteArray) (n : Int) :
    spec_l01Pad s n = (
      sif (decide ((s.size : Int) ≥ n)) (some s) <|
      sif (le3 0 (wi64 (n - (s.size : Int))) (wi64 (n - (s.size : Int))) && room ((wi64 (n - (s.size : Int))).toNat) 1)
       (sif (joins s (toB (List.replicate ((wi64 (n - (s.size : Int))).toNat) (0 : Int)))) (some (s ++ (toB (List.replicate ((wi64 (n - (s.size : Int))).toNat) (0 : Int))))) (none)) (none)) := sem_eq (f := 116) (m := 0) rfl (by kernel_rfl)
end Go.Ve.X
