/- The equations of the functions that 'FnExactReadBlock' reaches (printed by plan.py): what each answers. No condition. -/
import Derived.Test.YtkfcmjdooldonaaEnvFnExactReadBlock
namespace Go.Ve.X
open Go.Proofs Go.Ve Go.RowKit
set_option linter.unusedVariables false
set_option maxRecDepth 100000
theorem laws_FnExactReadBlock_eq (aD_Blocks : List ByteArray) (aD_Pending : List (Int × ByteArray)) (aD_Fuse : Int) (aD_Off : Bool) (aK : Int) :
    laws_FnExactReadBlock aD_Blocks aD_Pending aD_Fuse aD_Off aK = (
      sbind (laws_szDisk aD_Blocks aD_Pending aD_Fuse aD_Off 1048576) fun r1 =>
      sif (decide (r1 < 0)) (some true) <|
      sbind (laws_toDisk aD_Blocks aD_Pending aD_Fuse aD_Off) fun r2 =>
      sbind (spec_ReadBlock r2.2.2.1 r2.2.2.2 r2.1 r2.2.1 aK) fun r3 =>
      sbind (laws_toDisk aD_Blocks aD_Pending aD_Fuse aD_Off) fun r4 =>
      sbind (impl_ReadBlock r4.2.2.1 r4.2.2.2 r4.1 r4.2.1 aK) fun r5 =>
      sif (!seq r5.1 r3.1) (some false) <|
      sif ((r5.2 != r3.2)) (some false) <|
      sbind (laws_toDisk aD_Blocks aD_Pending aD_Fuse aD_Off) fun r6 =>
      sbind (laws_eqDisk r4.2.2.1 r4.2.2.2 r4.1 r4.2.1 r6.2.2.1 r6.2.2.2 r6.1 r6.2.1) fun r7 =>
      sif (!r7) (some false) (some true)) := sem_eq (f := 4) (m := 0) rfl (by kernel_rfl)
theorem laws_szDisk_eq (a_Blocks : List ByteArray) (a_Pending : List (Int × ByteArray)) (a_Fuse : Int) (a_Off : Bool) (left : Int) :
    laws_szDisk a_Blocks a_Pending a_Fuse a_Off left = (
      sbind (laws_szStringS a_Blocks left) fun r1 =>
      sif (decide (r1 < 0)) (some (-1)) <|
      sbind (laws_szPutS a_Pending r1) fun r2 =>
      sif (decide (r2 < 0)) (some (-1)) (some r2)) := sem_eq (f := 12) (m := 0) rfl (by kernel_rfl)
theorem laws_szStringS_eq (a : List ByteArray) (left : Int) :
    laws_szStringS a left = (
      sif (decide (wi64 (left - (a.length : Int)) < 0)) (some (-1)) <|
      laws_szStringS_l5 a (wi64 (left - (a.length : Int))) 0) := sem_eq (f := 50) (m := 0) rfl (by kernel_rfl)
theorem laws_szStringS_l5_eq (a : List ByteArray) (left : Int) (i : Int) :
    laws_szStringS_l5 a left i = (
      sif (decide (i < (a.length : Int)))
       (sbind (idx a i) fun x1 =>
        sif (decide (wi64 (left - (x1.size : Int)) < 0)) (some (-1)) <|
        laws_szStringS_l5 a (wi64 (left - (x1.size : Int))) (wi64 (i + 1))) (some left)) := seml_eq (f := 50) (m := 0) (l := 5) (by kernel_rfl)
theorem laws_szPutS_eq (a : List (Int × ByteArray)) (left : Int) :
    laws_szPutS a left = (
      sif (decide (wi64 (left - (a.length : Int)) < 0)) (some (-1)) (laws_szPutS_l5 a (wi64 (left - (a.length : Int))) 0)) := sem_eq (f := 51) (m := 0) rfl (by kernel_rfl)
theorem laws_szPutS_l5_eq (a : List (Int × ByteArray)) (left : Int) (i : Int) :
    laws_szPutS_l5 a left i = (
      sif (decide (i < (a.length : Int)))
       (sbind (idx a i) fun x1 =>
        sbind (laws_szPut x1.1 x1.2 left) fun r2 =>
        sif (decide (r2 < 0)) (some (-1)) (laws_szPutS_l5 a r2 (wi64 (i + 1)))) (some left)) := seml_eq (f := 51) (m := 0) (l := 5) (by kernel_rfl)
theorem laws_szPut_eq (a_Block : Int) (a_Data : ByteArray) (left : Int) :
    laws_szPut a_Block a_Data left = (
      sif (decide (wi64 (left - (a_Data.size : Int)) < 0)) (some (-1)) (some (wi64 (left - (a_Data.size : Int))))) := sem_eq (f := 106) (m := 0) rfl (by kernel_rfl)
theorem laws_toDisk_eq (a_Blocks : List ByteArray) (a_Pending : List (Int × ByteArray)) (a_Fuse : Int) (a_Off : Bool) :
    laws_toDisk a_Blocks a_Pending a_Fuse a_Off = (
      sbind (laws_toStringS a_Blocks) fun r1 =>
      sbind (laws_toPutS a_Pending) fun r2 =>
      some (a_Fuse, a_Off, r1, r2)) := sem_eq (f := 14) (m := 0) rfl (by kernel_rfl)
theorem laws_toStringS_eq (a : List ByteArray) :
    laws_toStringS a = (
      sif (le3 0 (a.length : Int) (a.length : Int) && room a.length 16) (laws_toStringS_l3 a 0 (List.replicate a.length (bs [] : ByteArray))) (none)) := sem_eq (f := 55) (m := 0) rfl (by kernel_rfl)
theorem laws_toStringS_l3_eq (a : List ByteArray) (i : Int) (out : List ByteArray) :
    laws_toStringS_l3 a i out = (
      sif (decide (i < (a.length : Int)))
       (sbind (idx a i) fun x1 =>
        sif (lt3 0 i (out.length : Int)) (laws_toStringS_l3 a (wi64 (i + 1)) (out.set i.toNat x1)) (none)) (some out)) := seml_eq (f := 55) (m := 0) (l := 3) (by kernel_rfl)
theorem laws_toPutS_eq (a : List (Int × ByteArray)) :
    laws_toPutS a = (
      sif (le3 0 (a.length : Int) (a.length : Int) && room a.length 24) (laws_toPutS_l3 a 0 (List.replicate a.length ((0, bs []) : Int × ByteArray))) (none)) := sem_eq (f := 56) (m := 0) rfl (by kernel_rfl)
theorem laws_toPutS_l3_eq (a : List (Int × ByteArray)) (i : Int) (out : List (Int × ByteArray)) :
    laws_toPutS_l3 a i out = (
      sif (decide (i < (a.length : Int)))
       (sbind (idx a i) fun x1 =>
        sbind (laws_toPut x1.1 x1.2) fun r2 =>
        sif (lt3 0 i (out.length : Int)) (laws_toPutS_l3 a (wi64 (i + 1)) (out.set i.toNat (r2.1, r2.2))) (none)) (some out)) := seml_eq (f := 56) (m := 0) (l := 3) (by kernel_rfl)
theorem laws_toPut_eq (a_Block : Int) (a_Data : ByteArray) :
    laws_toPut a_Block a_Data = (
      some (a_Block, a_Data)) := sem_eq (f := 107) (m := 0) rfl (by kernel_rfl)
theorem spec_ReadBlock_eq (d_Blocks : List ByteArray) (d_Pending : List (Int × ByteArray)) (d_Fuse : Int) (d_Off : Bool) (k : Int) :
    spec_ReadBlock d_Blocks d_Pending d_Fuse d_Off k = (
      sbind (spec_l09Ok d_Blocks d_Pending d_Fuse d_Off) fun r1 =>
      sif (!r1) (some (bs [], 1)) <|
      sbind (spec_l00In k 0 (wi64 ((d_Blocks.length : Int) - 1))) fun r2 =>
      sif (!r2) (some (bs [], 2)) <|
      sbind (spec_l09Read k d_Blocks d_Pending d_Fuse d_Off) fun r3 =>
      some (r3, 0)) := sem_eq (f := 13) (m := 0) rfl (by kernel_rfl)
theorem spec_l09Ok_eq (d_Blocks : List ByteArray) (d_Pending : List (Int × ByteArray)) (d_Fuse : Int) (d_Off : Bool) :
    spec_l09Ok d_Blocks d_Pending d_Fuse d_Off = (
      sbind (spec_l00In (d_Blocks.length : Int) 16 256) fun r1 =>
      sif (!r1) (some false) <|
      sif (decide ((d_Pending.length : Int) > 600)) (some false) <|
      sbind (spec_l00In d_Fuse (-1) 100000) fun r2 =>
      sif (!r2) (some false) <|
      spec_l09Ok_l5 (d_Blocks.length : Int) 0 d_Blocks d_Pending d_Fuse d_Off) := sem_eq (f := 52) (m := 0) rfl (by kernel_rfl)
theorem spec_l09Ok_l5_eq (n : Int) (i : Int) (d_Blocks : List ByteArray) (d_Pending : List (Int × ByteArray)) (d_Fuse : Int) (d_Off : Bool) :
    spec_l09Ok_l5 n i d_Blocks d_Pending d_Fuse d_Off = (
      sif (decide (i < (d_Blocks.length : Int)))
       (sbind (idx d_Blocks i) fun x1 =>
        sif (((x1.size : Int) != 64)) (some false) <|
        spec_l09Ok_l5 n (wi64 (i + 1)) d_Blocks d_Pending d_Fuse d_Off) (spec_l09Ok_l10 n 0 d_Blocks d_Pending d_Fuse d_Off)) := seml_eq (f := 52) (m := 0) (l := 5) (by kernel_rfl)
theorem spec_l09Ok_l10_eq (n : Int) (i : Int) (d_Blocks : List ByteArray) (d_Pending : List (Int × ByteArray)) (d_Fuse : Int) (d_Off : Bool) :
    spec_l09Ok_l10 n i d_Blocks d_Pending d_Fuse d_Off = (
      sif (decide (i < (d_Pending.length : Int)))
       (sbind (idx d_Pending i) fun x1 =>
        sbind (spec_l00In x1.1 0 (wi64 (n - 1))) fun r2 =>
        sif (!r2) (some false) <|
        sbind (idx d_Pending i) fun x3 =>
        sif (((x3.2.size : Int) != 64)) (some false) <|
        spec_l09Ok_l10 n (wi64 (i + 1)) d_Blocks d_Pending d_Fuse d_Off) (some true)) := seml_eq (f := 52) (m := 0) (l := 10) (by kernel_rfl)
theorem spec_l00In_eq (n : Int) (low : Int) (high : Int) :
    spec_l00In n low high = (
      sif (decide (n ≥ low)) (some (decide (n ≤ high))) (some false)) := sem_eq (f := 53) (m := 0) rfl (by kernel_rfl)
theorem spec_l09Read_eq (k : Int) (d_Blocks : List ByteArray) (d_Pending : List (Int × ByteArray)) (d_Fuse : Int) (d_Off : Bool) :
    spec_l09Read k d_Blocks d_Pending d_Fuse d_Off = (
      spec_l09Read_l2 k (wi64 ((d_Pending.length : Int) - 1)) d_Blocks d_Pending d_Fuse d_Off) := sem_eq (f := 54) (m := 0) rfl (by kernel_rfl)
theorem spec_l09Read_l2_eq (k : Int) (i : Int) (d_Blocks : List ByteArray) (d_Pending : List (Int × ByteArray)) (d_Fuse : Int) (d_Off : Bool) :
    spec_l09Read_l2 k i d_Blocks d_Pending d_Fuse d_Off = (
      sif (decide (i ≥ 0))
       (sbind (idx d_Pending i) fun x1 =>
        sif ((x1.1 == k))
         (sbind (idx d_Pending i) fun x2 =>
          some x2.2) <|
        spec_l09Read_l2 k (wi64 (i - 1)) d_Blocks d_Pending d_Fuse d_Off) <|
      sbind (idx d_Blocks k) fun x1 =>
      some x1) := seml_eq (f := 54) (m := 0) (l := 2) (by kernel_rfl)
theorem impl_ReadBlock_eq (d_Blocks : List ByteArray) (d_Pending : List (Int × ByteArray)) (d_Fuse : Int) (d_Off : Bool) (k : Int) :
    impl_ReadBlock d_Blocks d_Pending d_Fuse d_Off k = (
      sbind (impl_ValidDisk d_Blocks d_Pending d_Fuse d_Off) fun r1 =>
      sif (!r1) (some (bs [], 1)) <|
      sbind (impl_isIndex k (d_Blocks.length : Int)) fun r2 =>
      sif (!r2) (some (bs [], 2)) <|
      sbind (impl_Disk_read d_Blocks d_Pending d_Fuse d_Off k) fun r3 =>
      some (r3, 0)) := sem_eq (f := 15) (m := 0) rfl (by kernel_rfl)
theorem impl_ValidDisk_eq (d_Blocks : List ByteArray) (d_Pending : List (Int × ByteArray)) (d_Fuse : Int) (d_Off : Bool) :
    impl_ValidDisk d_Blocks d_Pending d_Fuse d_Off = (
      sbind (impl_within (d_Blocks.length : Int) 16 256) fun r1 =>
      sif (!r1) (some false) <|
      sif (decide ((d_Pending.length : Int) > 600)) (some false) <|
      sbind (impl_within d_Fuse (-1) 100000) fun r2 =>
      sif (!r2) (some false) <|
      sbind (slices_ContainsFunc_sstring_string_d_ValidDisk_1 d_Blocks) fun r3 =>
      sif (r3) (some false) <|
      sbind (slices_ContainsFunc_simpl_Put_impl_Put_d_ValidDisk_2 d_Pending d_Blocks d_Pending d_Fuse d_Off) fun r4 =>
      some !r4) := sem_eq (f := 57) (m := 0) rfl (by kernel_rfl)
theorem impl_within_eq (n : Int) (low : Int) (high : Int) :
    impl_within n low high = (
      sif (decide (n ≥ low)) (some (decide (n ≤ high))) (some false)) := sem_eq (f := 49) (m := 0) rfl (by kernel_rfl)
theorem slices_ContainsFunc_sstring_string_d_ValidDisk_1_eq (s : List ByteArray) :
    slices_ContainsFunc_sstring_string_d_ValidDisk_1 s = (
      sbind (slices_IndexFunc_sstring_string_d_ValidDisk_1 s) fun r1 =>
      some (decide (r1 ≥ 0))) := sem_eq (f := 108) (m := 0) rfl (by kernel_rfl)
theorem slices_IndexFunc_sstring_string_d_ValidDisk_1_eq (s : List ByteArray) :
    slices_IndexFunc_sstring_string_d_ValidDisk_1 s = (
      slices_IndexFunc_sstring_string_d_ValidDisk_1_l2 s (s.length : Int) 0) := sem_eq (f := 147) (m := 0) rfl (by kernel_rfl)
theorem slices_IndexFunc_sstring_string_d_ValidDisk_1_l2_eq (s : List ByteArray) (t7 : Int) (t8 : Int) :
    slices_IndexFunc_sstring_string_d_ValidDisk_1_l2 s t7 t8 = (
      sif (decide (t8 < t7))
       (sbind (idx s t8) fun x1 =>
        sbind (impl_ValidDisk_1 x1) fun r2 =>
        sif (r2) (some t8) <|
        slices_IndexFunc_sstring_string_d_ValidDisk_1_l2 s t7 (wi64 (t8 + 1))) (some (-1))) := seml_eq (f := 147) (m := 0) (l := 2) (by kernel_rfl)
theorem impl_ValidDisk_1_eq (b : ByteArray) :
    impl_ValidDisk_1 b = (
      sbind (impl_isBlock b) fun r1 =>
      some !r1) := sem_eq (f := 109) (m := 0) rfl (by kernel_rfl)
theorem impl_isBlock_eq (s : ByteArray) :
    impl_isBlock s = (
      some ((s.size : Int) == 64)) := sem_eq (f := 68) (m := 0) rfl (by kernel_rfl)
theorem slices_ContainsFunc_simpl_Put_impl_Put_d_ValidDisk_2_eq (s : List (Int × ByteArray)) (c0_Blocks : List ByteArray) (c0_Pending : List (Int × ByteArray)) (c0_Fuse : Int) (c0_Off : Bool) :
    slices_ContainsFunc_simpl_Put_impl_Put_d_ValidDisk_2 s c0_Blocks c0_Pending c0_Fuse c0_Off = (
      sbind (slices_IndexFunc_simpl_Put_impl_Put_d_ValidDisk_2 s c0_Blocks c0_Pending c0_Fuse c0_Off) fun r1 =>
      some (decide (r1 ≥ 0))) := sem_eq (f := 110) (m := 0) rfl (by kernel_rfl)
theorem slices_IndexFunc_simpl_Put_impl_Put_d_ValidDisk_2_eq (s : List (Int × ByteArray)) (c0_Blocks : List ByteArray) (c0_Pending : List (Int × ByteArray)) (c0_Fuse : Int) (c0_Off : Bool) :
    slices_IndexFunc_simpl_Put_impl_Put_d_ValidDisk_2 s c0_Blocks c0_Pending c0_Fuse c0_Off = (
      slices_IndexFunc_simpl_Put_impl_Put_d_ValidDisk_2_l2 s (s.length : Int) 0 c0_Blocks c0_Pending c0_Fuse c0_Off) := sem_eq (f := 148) (m := 0) rfl (by kernel_rfl)
theorem slices_IndexFunc_simpl_Put_impl_Put_d_ValidDisk_2_l2_eq (s : List (Int × ByteArray)) (t7 : Int) (t8 : Int) (c0_Blocks : List ByteArray) (c0_Pending : List (Int × ByteArray)) (c0_Fuse : Int) (c0_Off : Bool) :
    slices_IndexFunc_simpl_Put_impl_Put_d_ValidDisk_2_l2 s t7 t8 c0_Blocks c0_Pending c0_Fuse c0_Off = (
      sif (decide (t8 < t7))
       (sbind (idx s t8) fun x1 =>
        sbind (impl_ValidDisk_2 x1.1 x1.2 c0_Blocks c0_Pending c0_Fuse c0_Off) fun r2 =>
        sif (r2) (some t8) <|
        slices_IndexFunc_simpl_Put_impl_Put_d_ValidDisk_2_l2 s t7 (wi64 (t8 + 1)) c0_Blocks c0_Pending c0_Fuse c0_Off) (some (-1))) := seml_eq (f := 148) (m := 0) (l := 2) (by kernel_rfl)
theorem impl_ValidDisk_2_eq (p_Block : Int) (p_Data : ByteArray) (t1_Blocks : List ByteArray) (t1_Pending : List (Int × ByteArray)) (t1_Fuse : Int) (t1_Off : Bool) :
    impl_ValidDisk_2 p_Block p_Data t1_Blocks t1_Pending t1_Fuse t1_Off = (
      sbind (impl_isIndex p_Block (t1_Blocks.length : Int)) fun r1 =>
      sif (!r1) (some true) <|
      sbind (impl_isBlock p_Data) fun r2 =>
      some !r2) := sem_eq (f := 111) (m := 0) rfl (by kernel_rfl)
theorem impl_isIndex_eq (i : Int) (many : Int) :
    impl_isIndex i many = (
      sbind (impl_within i 0 (wi64 (many - 1))) fun r1 =>
      some r1) := sem_eq (f := 58) (m := 0) rfl (by kernel_rfl)
theorem impl_Disk_read_eq (x0 : List ByteArray) (x1 : List (Int × ByteArray)) (x2 : Int) (x3 : Bool) (x4 : Int) : impl_Disk_read x0 x1 x2 x3 x4 = dkRead x0 x1 x4 := ext_eq (E := E) (f := 59) (m := 0) (g := fun (d : List ByteArray × List (Int × ByteArray) × Int × Bool × Int) => (dkRead (d.1) (d.2.1) (d.2.2.2.2) : Option (ByteArray))) (by kernel_rfl) (x0, x1, x2, x3, x4)
theorem laws_eqDisk_eq (a_Blocks : List ByteArray) (a_Pending : List (Int × ByteArray)) (a_Fuse : Int) (a_Off : Bool) (b_Blocks : List ByteArray) (b_Pending : List (Int × ByteArray)) (b_Fuse : Int) (b_Off : Bool) :
    laws_eqDisk a_Blocks a_Pending a_Fuse a_Off b_Blocks b_Pending b_Fuse b_Off = (
      sbind (laws_eqStringS a_Blocks b_Blocks) fun r1 =>
      sif (!r1) (some false) <|
      sbind (laws_eqPutS a_Pending b_Pending) fun r2 =>
      sif (!r2) (some false) <|
      sif ((a_Fuse != b_Fuse)) (some false) (sif (!(a_Off == b_Off)) (some false) (some true))) := sem_eq (f := 16) (m := 0) rfl (by kernel_rfl)
theorem laws_eqStringS_eq (a : List ByteArray) (b : List ByteArray) :
    laws_eqStringS a b = (
      sif (((a.length : Int) != (b.length : Int))) (some false) (laws_eqStringS_l4 a b 0)) := sem_eq (f := 60) (m := 0) rfl (by kernel_rfl)
theorem laws_eqStringS_l4_eq (a : List ByteArray) (b : List ByteArray) (i : Int) :
    laws_eqStringS_l4 a b i = (
      sif (decide (i < (a.length : Int)))
       (sbind (idx a i) fun x1 =>
        sbind (idx b i) fun x2 =>
        sif (!seq x1 x2) (some false) (laws_eqStringS_l4 a b (wi64 (i + 1)))) (some true)) := seml_eq (f := 60) (m := 0) (l := 4) (by kernel_rfl)
theorem laws_eqPutS_eq (a : List (Int × ByteArray)) (b : List (Int × ByteArray)) :
    laws_eqPutS a b = (
      sif (((a.length : Int) != (b.length : Int))) (some false) (laws_eqPutS_l4 a b 0)) := sem_eq (f := 61) (m := 0) rfl (by kernel_rfl)
theorem laws_eqPutS_l4_eq (a : List (Int × ByteArray)) (b : List (Int × ByteArray)) (i : Int) :
    laws_eqPutS_l4 a b i = (
      sif (decide (i < (a.length : Int)))
       (sbind (idx a i) fun x1 =>
        sbind (idx b i) fun x2 =>
        sbind (laws_eqPut x1.1 x1.2 x2.1 x2.2) fun r3 =>
        sif (!r3) (some false) (laws_eqPutS_l4 a b (wi64 (i + 1)))) (some true)) := seml_eq (f := 61) (m := 0) (l := 4) (by kernel_rfl)
theorem laws_eqPut_eq (a_Block : Int) (a_Data : ByteArray) (b_Block : Int) (b_Data : ByteArray) :
    laws_eqPut a_Block a_Data b_Block b_Data = (
      sif ((a_Block != b_Block)) (some false) (sif (!seq a_Data b_Data) (some false) (some true))) := sem_eq (f := 113) (m := 0) rfl (by kernel_rfl)
end Go.Ve.X
