/- The equations of the functions that 'FnDisk' reaches (printed by plan.py): what each answers. No condition. -/
import Derived.Test.YtkfcmjdooldonaaEnvFnDisk
namespace Go.Ve.X
open Go.Proofs Go.Ve Go.RowKit
set_option linter.unusedVariables false
set_option maxRecDepth 100000
theorem laws_FnDisk_eq (code : List Int) :
    laws_FnDisk code = (
      sbind (laws_b10Long code) fun r1 =>
      sif (r1) (some true) <|
      sbind (spec_DrawWriteBlock code) fun r2 =>
      sbind (impl_WriteBlock r2.1 r2.2.1 r2.2.2.1 r2.2.2.2.1 r2.2.2.2.2.1 r2.2.2.2.2.2) fun r3 =>
      sif ((r3.2.2.2.2 != 0)) (some true) <|
      sbind (impl_Barrier r3.1 r3.2.1 r3.2.2.1 r3.2.2.2.1) fun r4 =>
      sif ((r4.2.2.2.2 == 0))
       (sif (((r4.1.length : Int) != (r2.1.length : Int))) (some false) <|
        laws_FnDisk_l11 r2.2.2.2.2.1 r2.2.2.2.2.2 r4.2.2.2.2 0 r2.1 r2.2.1 r2.2.2.1 r2.2.2.2.1 r3.1 r3.2.1 r3.2.2.1 r3.2.2.2.1 r4.1 r4.2.1 r4.2.2.1 r4.2.2.2.1) <|
      laws_FnDisk_l11 r2.2.2.2.2.1 r2.2.2.2.2.2 r4.2.2.2.2 0 r2.1 r2.2.1 r2.2.2.1 r2.2.2.2.1 r3.1 r3.2.1 r3.2.2.1 r3.2.2.2.1 r4.1 r4.2.1 r4.2.2.1 r4.2.2.2.1) := sem_eq (f := 5) (m := 0) rfl (by kernel_rfl)
theorem laws_FnDisk_l11_eq (k : Int) (data : ByteArray) (fine : Int) (i : Int) (d_Blocks : List ByteArray) (d_Pending : List (Int × ByteArray)) (d_Fuse : Int) (d_Off : Bool) (x_Blocks : List ByteArray) (x_Pending : List (Int × ByteArray)) (x_Fuse : Int) (x_Off : Bool) (y_Blocks : List ByteArray) (y_Pending : List (Int × ByteArray)) (y_Fuse : Int) (y_Off : Bool) :
    laws_FnDisk_l11 k data fine i d_Blocks d_Pending d_Fuse d_Off x_Blocks x_Pending x_Fuse x_Off y_Blocks y_Pending y_Fuse y_Off = (
      sif (decide (i < (d_Blocks.length : Int)))
       (sbind (impl_ReadBlock d_Blocks d_Pending d_Fuse d_Off i) fun r1 =>
        sbind (impl_ReadBlock x_Blocks x_Pending x_Fuse x_Off i) fun r2 =>
        sbind (impl_ReadBlock y_Blocks y_Pending y_Fuse y_Off i) fun r3 =>
        sif ((r1.2 != 0)) (some false) <|
        sif ((r2.2 != 0)) (some false) <|
        sif ((r3.2 != 0)) (some false) <|
        sif (!seq r2.1 r1.1)
         (sif ((i != k)) (some false) <|
          sif ((i == k))
           (sif (!seq r2.1 data) (some false) <|
            sif ((fine == 0))
             (sif (!seq r3.1 r2.1) (some false) <|
              sbind (idx y_Blocks i) fun x4 =>
              sif (!seq x4 r2.1) (some false) <|
              laws_FnDisk_l11 k data fine (wi64 (i + 1)) d_Blocks d_Pending d_Fuse d_Off x_Blocks x_Pending x_Fuse x_Off y_Blocks y_Pending y_Fuse y_Off) <|
            laws_FnDisk_l11 k data fine (wi64 (i + 1)) d_Blocks d_Pending d_Fuse d_Off x_Blocks x_Pending x_Fuse x_Off y_Blocks y_Pending y_Fuse y_Off) <|
          sif ((fine == 0))
           (sif (!seq r3.1 r2.1) (some false) <|
            sbind (idx y_Blocks i) fun x4 =>
            sif (!seq x4 r2.1) (some false) <|
            laws_FnDisk_l11 k data fine (wi64 (i + 1)) d_Blocks d_Pending d_Fuse d_Off x_Blocks x_Pending x_Fuse x_Off y_Blocks y_Pending y_Fuse y_Off) <|
          laws_FnDisk_l11 k data fine (wi64 (i + 1)) d_Blocks d_Pending d_Fuse d_Off x_Blocks x_Pending x_Fuse x_Off y_Blocks y_Pending y_Fuse y_Off) <|
        sif ((i == k))
         (sif (!seq r2.1 data) (some false) <|
          sif ((fine == 0))
           (sif (!seq r3.1 r2.1) (some false) <|
            sbind (idx y_Blocks i) fun x4 =>
            sif (!seq x4 r2.1) (some false) <|
            laws_FnDisk_l11 k data fine (wi64 (i + 1)) d_Blocks d_Pending d_Fuse d_Off x_Blocks x_Pending x_Fuse x_Off y_Blocks y_Pending y_Fuse y_Off) <|
          laws_FnDisk_l11 k data fine (wi64 (i + 1)) d_Blocks d_Pending d_Fuse d_Off x_Blocks x_Pending x_Fuse x_Off y_Blocks y_Pending y_Fuse y_Off) <|
        sif ((fine == 0))
         (sif (!seq r3.1 r2.1) (some false) <|
          sbind (idx y_Blocks i) fun x4 =>
          sif (!seq x4 r2.1) (some false) <|
          laws_FnDisk_l11 k data fine (wi64 (i + 1)) d_Blocks d_Pending d_Fuse d_Off x_Blocks x_Pending x_Fuse x_Off y_Blocks y_Pending y_Fuse y_Off) <|
        laws_FnDisk_l11 k data fine (wi64 (i + 1)) d_Blocks d_Pending d_Fuse d_Off x_Blocks x_Pending x_Fuse x_Off y_Blocks y_Pending y_Fuse y_Off) <|
      sif ((fine == 13)) (some true) <|
      sif ((fine == 0))
       (sif (((y_Pending.length : Int) == 0))
         (sbind (spec_ValidDisk y_Blocks y_Pending y_Fuse y_Off) fun r1 =>
          some r1) (some false)) (some false)) := seml_eq (f := 5) (m := 0) (l := 11) (by kernel_rfl)
theorem laws_b10Long_eq (code : List Int) :
    laws_b10Long code = (
      some (decide ((code.length : Int) > 1048576))) := sem_eq (f := 17) (m := 0) rfl (by kernel_rfl)
theorem spec_DrawWriteBlock_eq (code : List Int) :
    spec_DrawWriteBlock code = (
      sbind (spec_l00From code) fun r1 =>
      sbind (spec_l09Draw_wd 9 r1.1 r1.2.1 r1.2.2) fun r2 =>
      sbind (spec_l00Src_one_wd 12 r2.2.2.1 r2.2.2.2.1 r2.2.2.2.2.1) fun r3 =>
      sif (r3.1)
       (sif (decide ((r2.2.2.2.2.2.2.length : Int) < 600))
         (spec_DrawWriteBlock_l4 0 false r3.2.1 r3.2.2.1 r3.2.2.2 r2.1 r2.2.1 ([] : List ByteArray) ([] : List (Int × ByteArray)) r2.2.2.2.2.2.1 r2.2.2.2.2.2.2) <|
        sbind (spec_l09DrawAt_wdrdd r3.2.1 r3.2.2.1 r3.2.2.2 r2.2.2.2.2.2.1 r2.2.2.2.2.2.2 r2.1 r2.2.1) fun r4 =>
        sbind (spec_l09DrawBlock_wd r4.2.1 r4.2.2.1 r4.2.2.2) fun r5 =>
        sbind (spec_l00Src_one_wd 9 r5.2.1 r5.2.2.1 r5.2.2.2) fun r6 =>
        sif (r6.1)
         (sbind (spec_l00Src_word_wd 70 r6.2.1 r6.2.2.1 r6.2.2.2) fun r7 =>
          some (r2.2.2.2.2.2.1, r2.2.2.2.2.2.2, r2.1, r2.2.1, r4.1, r7.1)) <|
        some (r2.2.2.2.2.2.1, r2.2.2.2.2.2.2, r2.1, r2.2.1, r4.1, r5.1)) <|
      sbind (spec_l09DrawAt_wdrdd r3.2.1 r3.2.2.1 r3.2.2.2 r2.2.2.2.2.2.1 r2.2.2.2.2.2.2 r2.1 r2.2.1) fun r4 =>
      sbind (spec_l09DrawBlock_wd r4.2.1 r4.2.2.1 r4.2.2.2) fun r5 =>
      sbind (spec_l00Src_one_wd 9 r5.2.1 r5.2.2.1 r5.2.2.2) fun r6 =>
      sif (r6.1)
       (sbind (spec_l00Src_word_wd 70 r6.2.1 r6.2.2.1 r6.2.2.2) fun r7 =>
        some (r2.2.2.2.2.2.1, r2.2.2.2.2.2.2, r2.1, r2.2.1, r4.1, r7.1)) <|
      some (r2.2.2.2.2.2.1, r2.2.2.2.2.2.2, r2.1, r2.2.1, r4.1, r5.1)) := sem_eq (f := 18) (m := 0) rfl (by kernel_rfl)
theorem spec_DrawWriteBlock_l4_eq (t2_Fuse : Int) (t2_Off : Bool) (s_code : List Int) (s_at : Int) (s_seed : Int) (d_Fuse : Int) (d_Off : Bool) (t2_Blocks : List ByteArray) (t2_Pending : List (Int × ByteArray)) (d_Blocks : List ByteArray) (d_Pending : List (Int × ByteArray)) :
    spec_DrawWriteBlock_l4 t2_Fuse t2_Off s_code s_at s_seed d_Fuse d_Off t2_Blocks t2_Pending d_Blocks d_Pending = (
      sif (decide ((d_Pending.length : Int) < 600))
       (sbind (spec_l09Zero ()) fun r1 =>
        sif (room (d_Pending.length + 1) 24)
         (spec_DrawWriteBlock_l4 t2_Fuse t2_Off s_code s_at s_seed d_Fuse d_Off t2_Blocks t2_Pending d_Blocks (d_Pending ++ [(1, r1)])) (none)) <|
      sbind (spec_l09DrawAt_wdrdd s_code s_at s_seed d_Blocks d_Pending d_Fuse d_Off) fun r1 =>
      sbind (spec_l09DrawBlock_wd r1.2.1 r1.2.2.1 r1.2.2.2) fun r2 =>
      sbind (spec_l00Src_one_wd 9 r2.2.1 r2.2.2.1 r2.2.2.2) fun r3 =>
      sif (r3.1)
       (sbind (spec_l00Src_word_wd 70 r3.2.1 r3.2.2.1 r3.2.2.2) fun r4 =>
        some (d_Blocks, d_Pending, d_Fuse, d_Off, r1.1, r4.1)) <|
      some (d_Blocks, d_Pending, d_Fuse, d_Off, r1.1, r2.1)) := seml_eq (f := 18) (m := 0) (l := 4) (by kernel_rfl)
theorem spec_l00From_eq (code : List Int) :
    spec_l00From code = (
      some (code, 0, 0)) := sem_eq (f := 43) (m := 0) rfl (by kernel_rfl)
theorem spec_l09Draw_wd_eq (n : Int) (s_code : List Int) (s_at : Int) (s_seed : Int) :
    spec_l09Draw_wd n s_code s_at s_seed = (
      sbind (spec_l00Src_pick_wd 6 s_code s_at s_seed) fun r1 =>
      sbind (spec_l09New (wi64 (16 + r1.1))) fun r2 =>
      sbind (spec_l00Src_one_wd 12 r1.2.1 r1.2.2.1 r1.2.2.2) fun r3 =>
      sif (r3.1)
       (sbind (spec_l09New 256) fun r4 =>
        sbind (spec_l00Src_pick_wd 6 r3.2.1 r3.2.2.1 r3.2.2.2) fun r5 =>
        spec_l09Draw_wd_l5 n r5.1 r5.2.1 r5.2.2.1 r5.2.2.2 0 false r4.1 r4.2.1 ([] : List ByteArray) ([] : List (Int × ByteArray)) r4.2.2.1 r4.2.2.2) <|
      sbind (spec_l00Src_pick_wd 6 r3.2.1 r3.2.2.1 r3.2.2.2) fun r4 =>
      spec_l09Draw_wd_l5 n r4.1 r4.2.1 r4.2.2.1 r4.2.2.2 0 false r2.1 r2.2.1 ([] : List ByteArray) ([] : List (Int × ByteArray)) r2.2.2.1 r2.2.2.2) := sem_eq (f := 62) (m := 0) rfl (by kernel_rfl)
theorem spec_l09Draw_wd_l5_eq (n : Int) (k : Int) (s_code : List Int) (s_at : Int) (s_seed : Int) (t4_Fuse : Int) (t4_Off : Bool) (d_Fuse : Int) (d_Off : Bool) (t4_Blocks : List ByteArray) (t4_Pending : List (Int × ByteArray)) (d_Blocks : List ByteArray) (d_Pending : List (Int × ByteArray)) :
    spec_l09Draw_wd_l5 n k s_code s_at s_seed t4_Fuse t4_Off d_Fuse d_Off t4_Blocks t4_Pending d_Blocks d_Pending = (
      sif (decide (k > 0))
       (sbind (spec_l00Src_pick_wd (d_Blocks.length : Int) s_code s_at s_seed) fun r1 =>
        sbind (spec_l09DrawBlock_wd r1.2.1 r1.2.2.1 r1.2.2.2) fun r2 =>
        sif (lt3 0 r1.1 (d_Blocks.length : Int))
         (spec_l09Draw_wd_l5 n (wi64 (k - 1)) r2.2.1 r2.2.2.1 r2.2.2.2 t4_Fuse t4_Off d_Fuse d_Off t4_Blocks t4_Pending (d_Blocks.set r1.1.toNat r2.1) d_Pending) (none)) <|
      sbind (spec_l00Src_pick_wd 7 s_code s_at s_seed) fun r1 =>
      spec_l09Draw_wd_l9 n r1.1 r1.2.1 r1.2.2.1 r1.2.2.2 t4_Fuse t4_Off d_Fuse d_Off t4_Blocks t4_Pending d_Blocks d_Pending) := seml_eq (f := 62) (m := 0) (l := 5) (by kernel_rfl)
theorem spec_l09Draw_wd_l9_eq (n : Int) (k : Int) (s_code : List Int) (s_at : Int) (s_seed : Int) (t4_Fuse : Int) (t4_Off : Bool) (d_Fuse : Int) (d_Off : Bool) (t4_Blocks : List ByteArray) (t4_Pending : List (Int × ByteArray)) (d_Blocks : List ByteArray) (d_Pending : List (Int × ByteArray)) :
    spec_l09Draw_wd_l9 n k s_code s_at s_seed t4_Fuse t4_Off d_Fuse d_Off t4_Blocks t4_Pending d_Blocks d_Pending = (
      sif (decide (k > 0))
       (sbind (spec_l00Src_pick_wd 8 s_code s_at s_seed) fun r1 =>
        sbind (spec_l09DrawBlock_wd r1.2.1 r1.2.2.1 r1.2.2.2) fun r2 =>
        sif (room (d_Pending.length + 1) 24)
         (spec_l09Draw_wd_l9 n (wi64 (k - 1)) r2.2.1 r2.2.2.1 r2.2.2.2 t4_Fuse t4_Off d_Fuse d_Off t4_Blocks t4_Pending d_Blocks (d_Pending ++ [(r1.1, r2.1)])) (none)) <|
      sbind (spec_l00Src_among_wdd ([(-1), (-1), 0, 1, 5, 2] : List Int) s_code s_at s_seed) fun r1 =>
      sbind (spec_l00Src_one_wd 9 r1.2.1 r1.2.2.1 r1.2.2.2) fun r2 =>
      sbind (spec_l00Src_one_wd n r2.2.1 r2.2.2.1 r2.2.2.2) fun r3 =>
      sif (!r3.1) (some (r1.1, r2.1, r3.2.1, r3.2.2.1, r3.2.2.2, d_Blocks, d_Pending)) <|
      sbind (spec_l00Src_pick_wd 6 r3.2.1 r3.2.2.1 r3.2.2.2) fun r4 =>
      sif ((r4.1 == 0))
       (sbind (spec_l00Src_pick_wd 7 r4.2.1 r4.2.2.1 r4.2.2.2) fun r5 =>
        sif (le3 0 (wi64 ((d_Blocks.length : Int) - r5.1)) (d_Blocks.length : Int))
         (some (r1.1, r2.1, r5.2.1, r5.2.2.1, r5.2.2.2, (d_Blocks.take ((wi64 ((d_Blocks.length : Int) - r5.1)).toNat)).drop 0, d_Pending)) (none)) <|
      sif ((r4.1 == 1))
       (sbind (spec_l00Src_word_wd 70 r4.2.1 r4.2.2.1 r4.2.2.2) fun r5 =>
        sif (lt3 0 0 (d_Blocks.length : Int)) (some (r1.1, r2.1, r5.2.1, r5.2.2.1, r5.2.2.2, d_Blocks.set 0 r5.1, d_Pending)) (none)) <|
      sif ((r4.1 == 2))
       (sbind (spec_l00Src_among_wdd [(-1), (d_Blocks.length : Int), 0] r4.2.1 r4.2.2.1 r4.2.2.2) fun r5 =>
        sbind (spec_l09Zero ()) fun r6 =>
        sif (room (d_Pending.length + 1) 24) (some (r1.1, r2.1, r5.2.1, r5.2.2.1, r5.2.2.2, d_Blocks, d_Pending ++ [(r5.1, r6)])) (none)) <|
      sif ((r4.1 == 3))
       (sbind (spec_l00Src_word_wd 66 r4.2.1 r4.2.2.1 r4.2.2.2) fun r5 =>
        sif (room (d_Pending.length + 1) 24) (some (r1.1, r2.1, r5.2.1, r5.2.2.1, r5.2.2.2, d_Blocks, d_Pending ++ [(0, r5.1)])) (none)) <|
      sif ((r4.1 == 4))
       (sbind (spec_l00Src_among_wdd ([(-2), 100001, 100000] : List Int) r4.2.1 r4.2.2.1 r4.2.2.2) fun r5 =>
        some (r5.1, r2.1, r5.2.1, r5.2.2.1, r5.2.2.2, d_Blocks, d_Pending)) <|
      sbind (spec_l00Src_pick_wd 2 r4.2.1 r4.2.2.1 r4.2.2.2) fun r5 =>
      spec_l09Draw_wd_l19 r5.1 r5.2.1 r5.2.2.1 r5.2.2.2 t4_Fuse t4_Off r1.1 r2.1 t4_Blocks t4_Pending d_Blocks d_Pending) := seml_eq (f := 62) (m := 0) (l := 9) (by kernel_rfl)
theorem spec_l09Draw_wd_l19_eq (k : Int) (b_0_code : List Int) (b_0_at : Int) (b_0_seed : Int) (t4_Fuse : Int) (t4_Off : Bool) (d_Fuse : Int) (d_Off : Bool) (t4_Blocks : List ByteArray) (t4_Pending : List (Int × ByteArray)) (d_Blocks : List ByteArray) (d_Pending : List (Int × ByteArray)) :
    spec_l09Draw_wd_l19 k b_0_code b_0_at b_0_seed t4_Fuse t4_Off d_Fuse d_Off t4_Blocks t4_Pending d_Blocks d_Pending = (
      sif (decide (k ≤ 600))
       (sbind (spec_l09Zero ()) fun r1 =>
        sif (room (d_Pending.length + 1) 24)
         (spec_l09Draw_wd_l19 (wi64 (k + 1)) b_0_code b_0_at b_0_seed t4_Fuse t4_Off d_Fuse d_Off t4_Blocks t4_Pending d_Blocks (d_Pending ++ [(Int.tmod k 9, r1)])) (none)) <|
      some (d_Fuse, d_Off, b_0_code, b_0_at, b_0_seed, d_Blocks, d_Pending)) := seml_eq (f := 62) (m := 0) (l := 19) (by kernel_rfl)
theorem spec_l00Src_pick_wd_eq (n : Int) (s_code : List Int) (s_at : Int) (s_seed : Int) :
    spec_l00Src_pick_wd n s_code s_at s_seed = (
      sif (decide (n ≤ 1)) (some (0, s_code, s_at, s_seed)) <|
      sbind (spec_l00Src_next_wd s_code s_at s_seed) fun r1 =>
      sif (decide (n > 200))
       (sbind (spec_l00Src_next_wd r1.2.1 r1.2.2.1 r1.2.2.2) fun r2 =>
        sif (decide (n = 0)) (none) <|
        some (Int.tmod (wi64 ((wi64 (r1.1 * 256)) + r2.1)) n, r2.2.1, r2.2.2.1, r2.2.2.2)) <|
      sif (decide (n = 0)) (none) (some (Int.tmod r1.1 n, r1.2.1, r1.2.2.1, r1.2.2.2))) := sem_eq (f := 93) (m := 0) rfl (by kernel_rfl)
theorem spec_l00Src_next_wd_eq (s_code : List Int) (s_at : Int) (s_seed : Int) :
    spec_l00Src_next_wd s_code s_at s_seed = (
      sif (decide (s_at < (s_code.length : Int)))
       (sbind (idx s_code s_at) fun x1 =>
        sif (decide (wi64 (s_at + 1) ≤ (s_code.length : Int)))
         (some (wi64 x1, s_code, wi64 (s_at + 1), wu64 ((wu64 ((wu64 (s_seed * 6364136223846793005)) + (wu64 (wi64 x1)))) + 1442695040888963407))) <|
        some (wi64 (bits .and .u64 (Int.fdiv (wu64 ((wu64 ((wu64 (s_seed * 6364136223846793005)) + (wu64 (wi64 x1)))) + 1442695040888963407)) (2 ^ 40)) 255), s_code, wi64 (s_at + 1), wu64 ((wu64 ((wu64 (s_seed * 6364136223846793005)) + (wu64 (wi64 x1)))) + 1442695040888963407))) <|
      sif (decide (wi64 (s_at + 1) ≤ (s_code.length : Int)))
       (some (0, s_code, wi64 (s_at + 1), wu64 ((wu64 ((wu64 (s_seed * 6364136223846793005)) + 0)) + 1442695040888963407))) <|
      some (wi64 (bits .and .u64 (Int.fdiv (wu64 ((wu64 ((wu64 (s_seed * 6364136223846793005)) + 0)) + 1442695040888963407)) (2 ^ 40)) 255), s_code, wi64 (s_at + 1), wu64 ((wu64 ((wu64 (s_seed * 6364136223846793005)) + 0)) + 1442695040888963407))) := sem_eq (f := 94) (m := 0) rfl (by kernel_rfl)
theorem spec_l09New_eq (blocks : Int) :
    spec_l09New blocks = (
      spec_l09New_l3 blocks 0 0 false (-1) false ([] : List ByteArray) ([] : List (Int × ByteArray)) ([] : List ByteArray) ([] : List (Int × ByteArray))) := sem_eq (f := 114) (m := 0) rfl (by kernel_rfl)
theorem spec_l09New_l3_eq (blocks : Int) (k : Int) (t2_Fuse : Int) (t2_Off : Bool) (out_Fuse : Int) (out_Off : Bool) (t2_Blocks : List ByteArray) (t2_Pending : List (Int × ByteArray)) (out_Blocks : List ByteArray) (out_Pending : List (Int × ByteArray)) :
    spec_l09New_l3 blocks k t2_Fuse t2_Off out_Fuse out_Off t2_Blocks t2_Pending out_Blocks out_Pending = (
      sif (decide (k < blocks))
       (sbind (spec_l09Zero ()) fun r1 =>
        sif (room (out_Blocks.length + 1) 16)
         (spec_l09New_l3 blocks (wi64 (k + 1)) t2_Fuse t2_Off out_Fuse out_Off t2_Blocks t2_Pending (out_Blocks ++ [r1]) out_Pending) (none)) (some (out_Fuse, out_Off, out_Blocks, out_Pending))) := seml_eq (f := 114) (m := 0) (l := 3) (by kernel_rfl)
theorem spec_l09Zero_eq  :
    spec_l09Zero () = (
      some (toB (List.replicate 64 (0 : Int)))) := sem_eq (f := 64) (m := 0) rfl (by kernel_rfl)
theorem spec_l00Src_one_wd_eq (n : Int) (s_code : List Int) (s_at : Int) (s_seed : Int) :
    spec_l00Src_one_wd n s_code s_at s_seed = (
      sbind (spec_l00Src_pick_wd n s_code s_at s_seed) fun r1 =>
      some ((r1.1 == 0), r1.2.1, r1.2.2.1, r1.2.2.2)) := sem_eq (f := 63) (m := 0) rfl (by kernel_rfl)
theorem spec_l09DrawBlock_wd_eq (s_code : List Int) (s_at : Int) (s_seed : Int) :
    spec_l09DrawBlock_wd s_code s_at s_seed = (
      sbind (spec_l00Src_pick_wd 9 s_code s_at s_seed) fun r1 =>
      spec_l09DrawBlock_wd_l4 (wi64 (1 + r1.1)) 0 r1.2.1 r1.2.2.1 r1.2.2.2 ([] : List Int)) := sem_eq (f := 66) (m := 0) rfl (by kernel_rfl)
theorem spec_l09DrawBlock_wd_l4_eq (n : Int) (k : Int) (s_code : List Int) (s_at : Int) (s_seed : Int) (out : List Int) :
    spec_l09DrawBlock_wd_l4 n k s_code s_at s_seed out = (
      sif (decide (k < n))
       (sbind (spec_l00Src_next_wd s_code s_at s_seed) fun r1 =>
        sif (room (out.length + 1) 1) (spec_l09DrawBlock_wd_l4 n (wi64 (k + 1)) r1.2.1 r1.2.2.1 r1.2.2.2 (out ++ [wu8 r1.1])) (none)) <|
      sbind (spec_l00Src_one_wd 3 s_code s_at s_seed) fun r1 =>
      sif (r1.1)
       (sbind (spec_l01Pad (toB out) 64) fun r2 =>
        some (r2, r1.2.1, r1.2.2.1, r1.2.2.2)) <|
      spec_l09DrawBlock_wd_l9 n r1.2.1 r1.2.2.1 r1.2.2.2 out) := seml_eq (f := 66) (m := 0) (l := 4) (by kernel_rfl)
theorem spec_l09DrawBlock_wd_l9_eq (n : Int) (b_0_code : List Int) (b_0_at : Int) (b_0_seed : Int) (out : List Int) :
    spec_l09DrawBlock_wd_l9 n b_0_code b_0_at b_0_seed out = (
      sif (decide ((out.length : Int) < 64))
       (sif (decide (n = 0)) (none) <|
        sif (lt3 0 (Int.tmod (out.length : Int) n) (out.length : Int))
         (sbind (out[(Int.tmod (out.length : Int) n).toNat]?) fun x1 =>
          sif (room (out.length + 1) 1) (spec_l09DrawBlock_wd_l9 n b_0_code b_0_at b_0_seed (out ++ [x1])) (none)) (none)) (some (toB out, b_0_code, b_0_at, b_0_seed))) := seml_eq (f := 66) (m := 0) (l := 9) (by kernel_rfl)
theorem spec_l01Pad_eq (s : ByteArray) (n : Int) :
    spec_l01Pad s n = (
      sif (decide ((s.size : Int) ≥ n)) (some s) <|
      sif (le3 0 (wi64 (n - (s.size : Int))) (wi64 (n - (s.size : Int))) && room ((wi64 (n - (s.size : Int))).toNat) 1)
       (sif (joins s (toB (List.replicate ((wi64 (n - (s.size : Int))).toNat) (0 : Int)))) (some (s ++ (toB (List.replicate ((wi64 (n - (s.size : Int))).toNat) (0 : Int))))) (none)) (none)) := sem_eq (f := 116) (m := 0) rfl (by kernel_rfl)
theorem spec_l00Src_among_wdd_eq (list : List Int) (s_code : List Int) (s_at : Int) (s_seed : Int) :
    spec_l00Src_among_wdd list s_code s_at s_seed = (
      sbind (spec_l00Src_pick_wd (list.length : Int) s_code s_at s_seed) fun r1 =>
      sbind (idx list r1.1) fun x2 =>
      some (x2, r1.2.1, r1.2.2.1, r1.2.2.2)) := sem_eq (f := 115) (m := 0) rfl (by kernel_rfl)
theorem spec_l00Src_word_wd_eq (n : Int) (s_code : List Int) (s_at : Int) (s_seed : Int) :
    spec_l00Src_word_wd n s_code s_at s_seed = (
      sbind (spec_l00Src_pick_wd n s_code s_at s_seed) fun r1 =>
      spec_l00Src_word_wd_l3 r1.1 r1.2.1 r1.2.2.1 r1.2.2.2 ([] : List Int)) := sem_eq (f := 67) (m := 0) rfl (by kernel_rfl)
theorem spec_l00Src_word_wd_l3_eq (k : Int) (s_code : List Int) (s_at : Int) (s_seed : Int) (out : List Int) :
    spec_l00Src_word_wd_l3 k s_code s_at s_seed out = (
      sif (decide (k > 0))
       (sbind (spec_l00Src_next_wd s_code s_at s_seed) fun r1 =>
        sif (room (out.length + 1) 1) (spec_l00Src_word_wd_l3 (wi64 (k - 1)) r1.2.1 r1.2.2.1 r1.2.2.2 (out ++ [wu8 r1.1])) (none)) (some (toB out, s_code, s_at, s_seed))) := seml_eq (f := 67) (m := 0) (l := 3) (by kernel_rfl)
theorem spec_l09DrawAt_wdrdd_eq (s_code : List Int) (s_at : Int) (s_seed : Int) (d_Blocks : List ByteArray) (d_Pending : List (Int × ByteArray)) (d_Fuse : Int) (d_Off : Bool) :
    spec_l09DrawAt_wdrdd s_code s_at s_seed d_Blocks d_Pending d_Fuse d_Off = (
      sbind (spec_l00Src_one_wd 8 s_code s_at s_seed) fun r1 =>
      sif (r1.1)
       (sbind (spec_l00Src_among_wdd [(-1), (d_Blocks.length : Int), 300] r1.2.1 r1.2.2.1 r1.2.2.2) fun r2 =>
        some (r2.1, r2.2.1, r2.2.2.1, r2.2.2.2)) <|
      sbind (spec_l00Src_pick_wd (d_Blocks.length : Int) r1.2.1 r1.2.2.1 r1.2.2.2) fun r2 =>
      some (r2.1, r2.2.1, r2.2.2.1, r2.2.2.2)) := sem_eq (f := 65) (m := 0) rfl (by kernel_rfl)
theorem impl_WriteBlock_eq (d_Blocks : List ByteArray) (d_Pending : List (Int × ByteArray)) (d_Fuse : Int) (d_Off : Bool) (k : Int) (data : ByteArray) :
    impl_WriteBlock d_Blocks d_Pending d_Fuse d_Off k data = (
      sbind (impl_ValidDisk d_Blocks d_Pending d_Fuse d_Off) fun r1 =>
      sif (!r1) (some (([] : List ByteArray), ([] : List (Int × ByteArray)), 0, false, 1)) <|
      sbind (impl_isBlock data) fun r2 =>
      sif (!r2) (some (([] : List ByteArray), ([] : List (Int × ByteArray)), 0, false, 1)) <|
      sbind (impl_isIndex k (d_Blocks.length : Int)) fun r3 =>
      sif (!r3) (some (([] : List ByteArray), ([] : List (Int × ByteArray)), 0, false, 2)) <|
      sbind (impl_Disk_clone d_Blocks d_Pending d_Fuse d_Off) fun r4 =>
      sbind (impl_Disk_write_wvv k data r4.1 r4.2.1 r4.2.2.1 r4.2.2.2) fun r5 =>
      sbind (impl_powered r5.2.2.2.1 r5.2.2.2.2 r5.2.1 r5.2.2.1 r5.1) fun r6 =>
      some (r6.1, r6.2.1, r6.2.2.1, r6.2.2.2.1, r6.2.2.2.2)) := sem_eq (f := 19) (m := 0) rfl (by kernel_rfl)
theorem impl_ValidDisk_eq (d_Blocks : List ByteArray) (d_Pending : List (Int × ByteArray)) (d_Fuse : Int) (d_Off : Bool) :
    impl_ValidDisk d_Blocks d_Pending d_Fuse d_Off = (
      sbind (impl_within (d_Blocks.length : Int) 16 256) fun r1 =>
      sif (!r1) (some false) <|
      sif (decide ((d_Pending.length : Int) > 600)) (some false) <|
      sbind (impl_within d_Fuse (-1) 100000) fun r2 =>
      sif (!r2) (some false) <|
      sbind (slices_ContainsFunc_sstring_string_d_ValidDisk_1 d_Blocks) fun r3 =>
      sif (r3) (some false) <|
      sbind (slices_ContainsFunc_simpl_Put_impl_Put_d_ValidDisk_2 d_Pending d_Blocks d_Pending d_Fuse d_Off) fun r4 =>
      some !r4) := sem_eq (f := 57) (m := 0) rfl (by kernel_rfl)
theorem impl_within_eq (n : Int) (low : Int) (high : Int) :
    impl_within n low high = (
      sif (decide (n ≥ low)) (some (decide (n ≤ high))) (some false)) := sem_eq (f := 49) (m := 0) rfl (by kernel_rfl)
theorem slices_ContainsFunc_sstring_string_d_ValidDisk_1_eq (s : List ByteArray) :
    slices_ContainsFunc_sstring_string_d_ValidDisk_1 s = (
      sbind (slices_IndexFunc_sstring_string_d_ValidDisk_1 s) fun r1 =>
      some (decide (r1 ≥ 0))) := sem_eq (f := 108) (m := 0) rfl (by kernel_rfl)
theorem slices_IndexFunc_sstring_string_d_ValidDisk_1_eq (s : List ByteArray) :
    slices_IndexFunc_sstring_string_d_ValidDisk_1 s = (
      slices_IndexFunc_sstring_string_d_ValidDisk_1_l2 s (s.length : Int) 0) := sem_eq (f := 147) (m := 0) rfl (by kernel_rfl)
theorem slices_IndexFunc_sstring_string_d_ValidDisk_1_l2_eq (s : List ByteArray) (t7 : Int) (t8 : Int) :
    slices_IndexFunc_sstring_string_d_ValidDisk_1_l2 s t7 t8 = (
      sif (decide (t8 < t7))
       (sbind (idx s t8) fun x1 =>
        sbind (impl_ValidDisk_1 x1) fun r2 =>
        sif (r2) (some t8) <|
        slices_IndexFunc_sstring_string_d_ValidDisk_1_l2 s t7 (wi64 (t8 + 1))) (some (-1))) := seml_eq (f := 147) (m := 0) (l := 2) (by kernel_rfl)
theorem impl_ValidDisk_1_eq (b : ByteArray) :
    impl_ValidDisk_1 b = (
      sbind (impl_isBlock b) fun r1 =>
      some !r1) := sem_eq (f := 109) (m := 0) rfl (by kernel_rfl)
theorem impl_isBlock_eq (s : ByteArray) :
    impl_isBlock s = (
      some ((s.size : Int) == 64)) := sem_eq (f := 68) (m := 0) rfl (by kernel_rfl)
theorem slices_ContainsFunc_simpl_Put_impl_Put_d_ValidDisk_2_eq (s : List (Int × ByteArray)) (c0_Blocks : List ByteArray) (c0_Pending : List (Int × ByteArray)) (c0_Fuse : Int) (c0_Off : Bool) :
    slices_ContainsFunc_simpl_Put_impl_Put_d_ValidDisk_2 s c0_Blocks c0_Pending c0_Fuse c0_Off = (
      sbind (slices_IndexFunc_simpl_Put_impl_Put_d_ValidDisk_2 s c0_Blocks c0_Pending c0_Fuse c0_Off) fun r1 =>
      some (decide (r1 ≥ 0))) := sem_eq (f := 110) (m := 0) rfl (by kernel_rfl)
theorem slices_IndexFunc_simpl_Put_impl_Put_d_ValidDisk_2_eq (s : List (Int × ByteArray)) (c0_Blocks : List ByteArray) (c0_Pending : List (Int × ByteArray)) (c0_Fuse : Int) (c0_Off : Bool) :
    slices_IndexFunc_simpl_Put_impl_Put_d_ValidDisk_2 s c0_Blocks c0_Pending c0_Fuse c0_Off = (
      slices_IndexFunc_simpl_Put_impl_Put_d_ValidDisk_2_l2 s (s.length : Int) 0 c0_Blocks c0_Pending c0_Fuse c0_Off) := sem_eq (f := 148) (m := 0) rfl (by kernel_rfl)
theorem slices_IndexFunc_simpl_Put_impl_Put_d_ValidDisk_2_l2_eq (s : List (Int × ByteArray)) (t7 : Int) (t8 : Int) (c0_Blocks : List ByteArray) (c0_Pending : List (Int × ByteArray)) (c0_Fuse : Int) (c0_Off : Bool) :
    slices_IndexFunc_simpl_Put_impl_Put_d_ValidDisk_2_l2 s t7 t8 c0_Blocks c0_Pending c0_Fuse c0_Off = (
      sif (decide (t8 < t7))
       (sbind (idx s t8) fun x1 =>
        sbind (impl_ValidDisk_2 x1.1 x1.2 c0_Blocks c0_Pending c0_Fuse c0_Off) fun r2 =>
        sif (r2) (some t8) <|
        slices_IndexFunc_simpl_Put_impl_Put_d_ValidDisk_2_l2 s t7 (wi64 (t8 + 1)) c0_Blocks c0_Pending c0_Fuse c0_Off) (some (-1))) := seml_eq (f := 148) (m := 0) (l := 2) (by kernel_rfl)
theorem impl_ValidDisk_2_eq (p_Block : Int) (p_Data : ByteArray) (t1_Blocks : List ByteArray) (t1_Pending : List (Int × ByteArray)) (t1_Fuse : Int) (t1_Off : Bool) :
    impl_ValidDisk_2 p_Block p_Data t1_Blocks t1_Pending t1_Fuse t1_Off = (
      sbind (impl_isIndex p_Block (t1_Blocks.length : Int)) fun r1 =>
      sif (!r1) (some true) <|
      sbind (impl_isBlock p_Data) fun r2 =>
      some !r2) := sem_eq (f := 111) (m := 0) rfl (by kernel_rfl)
theorem impl_isIndex_eq (i : Int) (many : Int) :
    impl_isIndex i many = (
      sbind (impl_within i 0 (wi64 (many - 1))) fun r1 =>
      some r1) := sem_eq (f := 58) (m := 0) rfl (by kernel_rfl)
theorem impl_Disk_clone_eq (d_Blocks : List ByteArray) (d_Pending : List (Int × ByteArray)) (d_Fuse : Int) (d_Off : Bool) :
    impl_Disk_clone d_Blocks d_Pending d_Fuse d_Off = (
      sbind (slices_Clone_sstring_string d_Blocks) fun r1 =>
      sbind (slices_Clone_simpl_Put_impl_Put d_Pending) fun r2 =>
      some (d_Fuse, d_Off, r1, r2)) := sem_eq (f := 69) (m := 0) rfl (by kernel_rfl)
theorem slices_Clone_sstring_string_eq (s : List ByteArray) :
    slices_Clone_sstring_string s = (
      sif (s.isEmpty) (sboth (some ([] : List ByteArray)) (sif (room (0 + s.length) 16) (some s) (none))) (sif (room (0 + s.length) 16) (some s) (none))) := sem_eq (f := 117) (m := 0) rfl (by kernel_rfl)
theorem slices_Clone_simpl_Put_impl_Put_eq (s : List (Int × ByteArray)) :
    slices_Clone_simpl_Put_impl_Put s = (
      sif (s.isEmpty) (sboth (some ([] : List (Int × ByteArray))) (sif (room (0 + s.length) 24) (some s) (none))) (sif (room (0 + s.length) 24) (some s) (none))) := sem_eq (f := 118) (m := 0) rfl (by kernel_rfl)
theorem impl_Disk_write_wvv_eq (k : Int) (data : ByteArray) (d_Fuse : Int) (d_Off : Bool) (d_Blocks : List ByteArray) (d_Pending : List (Int × ByteArray)) :
    impl_Disk_write_wvv k data d_Fuse d_Off d_Blocks d_Pending = (
      sbind (impl_Disk_power_wvv d_Fuse d_Off d_Blocks d_Pending) fun r1 =>
      sif ((r1.1 != 0)) (some (r1.1, r1.2.1, r1.2.2.1, r1.2.2.2.1, r1.2.2.2.2)) <|
      sif (decide ((r1.2.2.2.2.length : Int) ≥ 600)) (some (5, r1.2.1, r1.2.2.1, r1.2.2.2.1, r1.2.2.2.2)) <|
      sif (room (r1.2.2.2.2.length + 1) 24) (some (0, r1.2.1, r1.2.2.1, r1.2.2.2.1, r1.2.2.2.2 ++ [(k, data)])) (none)) := sem_eq (f := 70) (m := 0) rfl (by kernel_rfl)
theorem impl_Disk_power_wvv_eq (d_Fuse : Int) (d_Off : Bool) (d_Blocks : List ByteArray) (d_Pending : List (Int × ByteArray)) :
    impl_Disk_power_wvv d_Fuse d_Off d_Blocks d_Pending = (
      sif (d_Off) (some (13, d_Fuse, true, d_Blocks, d_Pending)) <|
      sif ((d_Fuse == 0)) (some (13, d_Fuse, true, d_Blocks, d_Pending)) <|
      sif (decide (d_Fuse > 0)) (some (0, wi64 (d_Fuse - 1), d_Off, d_Blocks, d_Pending)) (some (0, d_Fuse, d_Off, d_Blocks, d_Pending))) := sem_eq (f := 119) (m := 0) rfl (by kernel_rfl)
theorem impl_powered_eq (d_Blocks : List ByteArray) (d_Pending : List (Int × ByteArray)) (d_Fuse : Int) (d_Off : Bool) (code : Int) :
    impl_powered d_Blocks d_Pending d_Fuse d_Off code = (
      sif ((code != 0))
       (sif ((code != 13)) (some (([] : List ByteArray), ([] : List (Int × ByteArray)), 0, false, code)) (some (d_Blocks, d_Pending, d_Fuse, d_Off, code))) (some (d_Blocks, d_Pending, d_Fuse, d_Off, code))) := sem_eq (f := 71) (m := 0) rfl (by kernel_rfl)
theorem impl_Barrier_eq (d_Blocks : List ByteArray) (d_Pending : List (Int × ByteArray)) (d_Fuse : Int) (d_Off : Bool) :
    impl_Barrier d_Blocks d_Pending d_Fuse d_Off = (
      sbind (impl_ValidDisk d_Blocks d_Pending d_Fuse d_Off) fun r1 =>
      sif (!r1) (some (([] : List ByteArray), ([] : List (Int × ByteArray)), 0, false, 1)) <|
      sbind (impl_Disk_clone d_Blocks d_Pending d_Fuse d_Off) fun r2 =>
      sbind (impl_Disk_barrier_wvv r2.1 r2.2.1 r2.2.2.1 r2.2.2.2) fun r3 =>
      sbind (impl_powered r3.2.2.2.1 r3.2.2.2.2 r3.2.1 r3.2.2.1 r3.1) fun r4 =>
      some (r4.1, r4.2.1, r4.2.2.1, r4.2.2.2.1, r4.2.2.2.2)) := sem_eq (f := 20) (m := 0) rfl (by kernel_rfl)
theorem impl_Disk_barrier_wvv_eq (d_Fuse : Int) (d_Off : Bool) (d_Blocks : List ByteArray) (d_Pending : List (Int × ByteArray)) :
    impl_Disk_barrier_wvv d_Fuse d_Off d_Blocks d_Pending = (
      sbind (impl_Disk_power_wvv d_Fuse d_Off d_Blocks d_Pending) fun r1 =>
      sif ((r1.1 != 0)) (some (r1.1, r1.2.1, r1.2.2.1, r1.2.2.2.1, r1.2.2.2.2)) <|
      impl_Disk_barrier_wvv_l5 (r1.2.2.2.2.length : Int) 0 r1.2.1 r1.2.2.1 r1.2.2.2.1 r1.2.2.2.2) := sem_eq (f := 72) (m := 0) rfl (by kernel_rfl)
theorem impl_Disk_barrier_wvv_l5_eq (t15 : Int) (t16 : Int) (d_Fuse : Int) (d_Off : Bool) (d_Blocks : List ByteArray) (t14 : List (Int × ByteArray)) :
    impl_Disk_barrier_wvv_l5 t15 t16 d_Fuse d_Off d_Blocks t14 = (
      sif (decide (t16 < t15))
       (sif (lt3 0 t16 (t14.length : Int))
         (sbind (t14[t16.toNat]?) fun x1 =>
          sif (lt3 0 x1.1 (d_Blocks.length : Int))
           (impl_Disk_barrier_wvv_l5 t15 (wi64 (t16 + 1)) d_Fuse d_Off (d_Blocks.set x1.1.toNat x1.2) t14) (none)) (none)) <|
      some (0, d_Fuse, d_Off, d_Blocks, ([] : List (Int × ByteArray)))) := seml_eq (f := 72) (m := 0) (l := 5) (by kernel_rfl)
theorem impl_ReadBlock_eq (d_Blocks : List ByteArray) (d_Pending : List (Int × ByteArray)) (d_Fuse : Int) (d_Off : Bool) (k : Int) :
    impl_ReadBlock d_Blocks d_Pending d_Fuse d_Off k = (
      sbind (impl_ValidDisk d_Blocks d_Pending d_Fuse d_Off) fun r1 =>
      sif (!r1) (some (bs [], 1)) <|
      sbind (impl_isIndex k (d_Blocks.length : Int)) fun r2 =>
      sif (!r2) (some (bs [], 2)) <|
      sbind (impl_Disk_read d_Blocks d_Pending d_Fuse d_Off k) fun r3 =>
      some (r3, 0)) := sem_eq (f := 15) (m := 0) rfl (by kernel_rfl)
theorem impl_Disk_read_eq (x0 : List ByteArray) (x1 : List (Int × ByteArray)) (x2 : Int) (x3 : Bool) (x4 : Int) : impl_Disk_read x0 x1 x2 x3 x4 = dkRead x0 x1 x4 := ext_eq (E := E) (f := 59) (m := 0) (g := fun (d : List ByteArray × List (Int × ByteArray) × Int × Bool × Int) => (dkRead (d.1) (d.2.1) (d.2.2.2.2) : Option (ByteArray))) (by kernel_rfl) (x0, x1, x2, x3, x4)
theorem spec_ValidDisk_eq (d_Blocks : List ByteArray) (d_Pending : List (Int × ByteArray)) (d_Fuse : Int) (d_Off : Bool) :
    spec_ValidDisk d_Blocks d_Pending d_Fuse d_Off = (
      sbind (spec_l09Ok d_Blocks d_Pending d_Fuse d_Off) fun r1 =>
      some r1) := sem_eq (f := 21) (m := 0) rfl (by kernel_rfl)
theorem spec_l09Ok_eq (d_Blocks : List ByteArray) (d_Pending : List (Int × ByteArray)) (d_Fuse : Int) (d_Off : Bool) :
    spec_l09Ok d_Blocks d_Pending d_Fuse d_Off = (
      sbind (spec_l00In (d_Blocks.length : Int) 16 256) fun r1 =>
      sif (!r1) (some false) <|
      sif (decide ((d_Pending.length : Int) > 600)) (some false) <|
      sbind (spec_l00In d_Fuse (-1) 100000) fun r2 =>
      sif (!r2) (some false) <|
      spec_l09Ok_l5 (d_Blocks.length : Int) 0 d_Blocks d_Pending d_Fuse d_Off) := sem_eq (f := 52) (m := 0) rfl (by kernel_rfl)
theorem spec_l09Ok_l5_eq (n : Int) (i : Int) (d_Blocks : List ByteArray) (d_Pending : List (Int × ByteArray)) (d_Fuse : Int) (d_Off : Bool) :
    spec_l09Ok_l5 n i d_Blocks d_Pending d_Fuse d_Off = (
      sif (decide (i < (d_Blocks.length : Int)))
       (sbind (idx d_Blocks i) fun x1 =>
        sif (((x1.size : Int) != 64)) (some false) <|
        spec_l09Ok_l5 n (wi64 (i + 1)) d_Blocks d_Pending d_Fuse d_Off) (spec_l09Ok_l10 n 0 d_Blocks d_Pending d_Fuse d_Off)) := seml_eq (f := 52) (m := 0) (l := 5) (by kernel_rfl)
theorem spec_l09Ok_l10_eq (n : Int) (i : Int) (d_Blocks : List ByteArray) (d_Pending : List (Int × ByteArray)) (d_Fuse : Int) (d_Off : Bool) :
    spec_l09Ok_l10 n i d_Blocks d_Pending d_Fuse d_Off = (
      sif (decide (i < (d_Pending.length : Int)))
       (sbind (idx d_Pending i) fun x1 =>
        sbind (spec_l00In x1.1 0 (wi64 (n - 1))) fun r2 =>
        sif (!r2) (some false) <|
        sbind (idx d_Pending i) fun x3 =>
        sif (((x3.2.size : Int) != 64)) (some false) <|
        spec_l09Ok_l10 n (wi64 (i + 1)) d_Blocks d_Pending d_Fuse d_Off) (some true)) := seml_eq (f := 52) (m := 0) (l := 10) (by kernel_rfl)
theorem spec_l00In_eq (n : Int) (low : Int) (high : Int) :
    spec_l00In n low high = (
      sif (decide (n ≥ low)) (some (decide (n ≤ high))) (some false)) := sem_eq (f := 53) (m := 0) rfl (by kernel_rfl)
end Go.Ve.X
