/- The equations of the functions that 'FnExactWriteBlock' reaches (printed by plan.py): what each answers. No condition. -/
import Derived.Test.YtejjlklecmdpiabEnvFnExactWriteBlock
namespace Go.Ve.X
open Go.Proofs Go.Ve
set_option linter.unusedVariables false
set_option maxRecDepth 100000
theorem laws_FnExactWriteBlock_eq (aD_Blocks : List ByteArray) (aD_Pending : List (Int × ByteArray)) (aD_Fuse : Int) (aD_Off : Bool) (aK : Int) (aData : ByteArray) :
    laws_FnExactWriteBlock aD_Blocks aD_Pending aD_Fuse aD_Off aK aData = (
      sif (decide ((aData.size : Int) > 1048576)) (some true) <|
      sbind (laws_szDisk aD_Blocks aD_Pending aD_Fuse aD_Off 1048576) fun r1 =>
      sif (decide (r1 < 0)) (some true) <|
      sbind (laws_toDisk aD_Blocks aD_Pending aD_Fuse aD_Off) fun r2 =>
      sbind (spec_WriteBlock r2.2.2.1 r2.2.2.2 r2.1 r2.2.1 aK aData) fun r3 =>
      sbind (laws_toDisk aD_Blocks aD_Pending aD_Fuse aD_Off) fun r4 =>
      sbind (impl_WriteBlock r4.2.2.1 r4.2.2.2 r4.1 r4.2.1 aK aData) fun r5 =>
      sbind (laws_eqDisk r5.2.2.2.1 r5.2.2.2.2 r5.1 r5.2.1 r3.2.2.2.1 r3.2.2.2.2 r3.1 r3.2.1) fun r6 =>
      sif (!r6) (some false) <|
      sif ((r5.2.2.1 != r3.2.2.1)) (some false) <|
      sbind (laws_toDisk aD_Blocks aD_Pending aD_Fuse aD_Off) fun r7 =>
      sbind (laws_eqDisk r4.2.2.1 r4.2.2.2 r4.1 r4.2.1 r7.2.2.1 r7.2.2.2 r7.1 r7.2.1) fun r8 =>
      sif (!r8) (some false) <|
      sbind (laws_markDisk_vv r4.1 r4.2.1 1 r4.2.2.1 r4.2.2.2) fun r9 =>
      sif (decide (r9.1 < 0)) (some false) <|
      sbind (laws_eqDisk r5.2.2.2.1 r5.2.2.2.2 r5.1 r5.2.1 r3.2.2.2.1 r3.2.2.2.2 r3.1 r3.2.1) fun r10 =>
      sif (!r10) (some false) <|
      sif ((r5.2.2.1 != r3.2.2.1)) (some false) <|
      sbind (laws_markDisk_vv r5.1 r5.2.1 1 r5.2.2.2.1 r5.2.2.2.2) fun r11 =>
      sbind (laws_heldDisk r11.2.1 r11.2.2 r5.1 r5.2.1 1) fun r12 =>
      sif (decide (r12 < 0)) (some false) <|
      sif ((r12 != r11.1)) (some false) <|
      sbind (laws_toDisk aD_Blocks aD_Pending aD_Fuse aD_Off) fun r13 =>
      sbind (impl_WriteBlock r13.2.2.1 r13.2.2.2 r13.1 r13.2.1 aK aData) fun r14 =>
      sbind (laws_eqDisk r14.2.2.2.1 r14.2.2.2.2 r14.1 r14.2.1 r3.2.2.2.1 r3.2.2.2.2 r3.1 r3.2.1) fun r15 =>
      sif (!r15) (some false) <|
      sif ((r14.2.2.1 != r3.2.2.1)) (some false) <|
      sbind (laws_heldDisk r11.2.1 r11.2.2 r5.1 r5.2.1 1) fun r16 =>
      sif (decide (r16 < 0)) (some false) (sif ((r16 != r11.1)) (some false) (some true))) := sem_eq (f := 3) (m := 0) rfl (by kernel_rfl)
theorem laws_szDisk_eq (a_Blocks : List ByteArray) (a_Pending : List (Int × ByteArray)) (a_Fuse : Int) (a_Off : Bool) (left : Int) :
    laws_szDisk a_Blocks a_Pending a_Fuse a_Off left = (
      sbind (laws_szStringS a_Blocks left) fun r1 =>
      sif (decide (r1 < 0)) (some (-1)) <|
      sbind (laws_szPutS a_Pending r1) fun r2 =>
      sif (decide (r2 < 0)) (some (-1)) (some r2)) := sem_eq (f := 6) (m := 0) rfl (by kernel_rfl)
theorem laws_szStringS_eq (a : List ByteArray) (left : Int) :
    laws_szStringS a left = (
      sif (decide (wi64 (left - (a.length : Int)) < 0)) (some (-1)) <|
      laws_szStringS_l5 a (wi64 (left - (a.length : Int))) 0) := sem_eq (f := 26) (m := 0) rfl (by kernel_rfl)
theorem laws_szStringS_l5_eq (a : List ByteArray) (left : Int) (i : Int) :
    laws_szStringS_l5 a left i = (
      sif (decide (i < (a.length : Int)))
       (sbind (idx a i) fun x1 =>
        sif (decide (wi64 (left - (x1.size : Int)) < 0)) (some (-1)) <|
        laws_szStringS_l5 a (wi64 (left - (x1.size : Int))) (wi64 (i + 1))) (some left)) := seml_eq (f := 26) (m := 0) (l := 5) (by kernel_rfl)
theorem laws_szPutS_eq (a : List (Int × ByteArray)) (left : Int) :
    laws_szPutS a left = (
      sif (decide (wi64 (left - (a.length : Int)) < 0)) (some (-1)) (laws_szPutS_l5 a (wi64 (left - (a.length : Int))) 0)) := sem_eq (f := 27) (m := 0) rfl (by kernel_rfl)
theorem laws_szPutS_l5_eq (a : List (Int × ByteArray)) (left : Int) (i : Int) :
    laws_szPutS_l5 a left i = (
      sif (decide (i < (a.length : Int)))
       (sbind (idx a i) fun x1 =>
        sbind (laws_szPut x1.1 x1.2 left) fun r2 =>
        sif (decide (r2 < 0)) (some (-1)) (laws_szPutS_l5 a r2 (wi64 (i + 1)))) (some left)) := seml_eq (f := 27) (m := 0) (l := 5) (by kernel_rfl)
theorem laws_szPut_eq (a_Block : Int) (a_Data : ByteArray) (left : Int) :
    laws_szPut a_Block a_Data left = (
      sif (decide (wi64 (left - (a_Data.size : Int)) < 0)) (some (-1)) (some (wi64 (left - (a_Data.size : Int))))) := sem_eq (f := 64) (m := 0) rfl (by kernel_rfl)
theorem laws_toDisk_eq (a_Blocks : List ByteArray) (a_Pending : List (Int × ByteArray)) (a_Fuse : Int) (a_Off : Bool) :
    laws_toDisk a_Blocks a_Pending a_Fuse a_Off = (
      sbind (laws_toStringS a_Blocks) fun r1 =>
      sbind (laws_toPutS a_Pending) fun r2 =>
      some (a_Fuse, a_Off, r1, r2)) := sem_eq (f := 8) (m := 0) rfl (by kernel_rfl)
theorem laws_toStringS_eq (a : List ByteArray) :
    laws_toStringS a = (
      sif (le3 0 (a.length : Int) (a.length : Int) && room a.length 16) (laws_toStringS_l3 a 0 (List.replicate a.length (bs [] : ByteArray))) (none)) := sem_eq (f := 32) (m := 0) rfl (by kernel_rfl)
theorem laws_toStringS_l3_eq (a : List ByteArray) (i : Int) (out : List ByteArray) :
    laws_toStringS_l3 a i out = (
      sif (decide (i < (a.length : Int)))
       (sbind (idx a i) fun x1 =>
        sif (lt3 0 i (out.length : Int)) (laws_toStringS_l3 a (wi64 (i + 1)) (out.set i.toNat x1)) (none)) (some out)) := seml_eq (f := 32) (m := 0) (l := 3) (by kernel_rfl)
theorem laws_toPutS_eq (a : List (Int × ByteArray)) :
    laws_toPutS a = (
      sif (le3 0 (a.length : Int) (a.length : Int) && room a.length 24) (laws_toPutS_l3 a 0 (List.replicate a.length ((0, bs []) : Int × ByteArray))) (none)) := sem_eq (f := 33) (m := 0) rfl (by kernel_rfl)
theorem laws_toPutS_l3_eq (a : List (Int × ByteArray)) (i : Int) (out : List (Int × ByteArray)) :
    laws_toPutS_l3 a i out = (
      sif (decide (i < (a.length : Int)))
       (sbind (idx a i) fun x1 =>
        sbind (laws_toPut x1.1 x1.2) fun r2 =>
        sif (lt3 0 i (out.length : Int)) (laws_toPutS_l3 a (wi64 (i + 1)) (out.set i.toNat (r2.1, r2.2))) (none)) (some out)) := seml_eq (f := 33) (m := 0) (l := 3) (by kernel_rfl)
theorem laws_toPut_eq (a_Block : Int) (a_Data : ByteArray) :
    laws_toPut a_Block a_Data = (
      some (a_Block, a_Data)) := sem_eq (f := 66) (m := 0) rfl (by kernel_rfl)
theorem spec_WriteBlock_eq (d_Blocks : List ByteArray) (d_Pending : List (Int × ByteArray)) (d_Fuse : Int) (d_Off : Bool) (k : Int) (data : ByteArray) :
    spec_WriteBlock d_Blocks d_Pending d_Fuse d_Off k data = (
      sbind (spec_l09Ok d_Blocks d_Pending d_Fuse d_Off) fun r1 =>
      sif (!r1) (some (0, false, 1, ([] : List ByteArray), ([] : List (Int × ByteArray)))) <|
      sif (((data.size : Int) != 64)) (some (0, false, 1, ([] : List ByteArray), ([] : List (Int × ByteArray)))) <|
      sbind (spec_l00In k 0 (wi64 ((d_Blocks.length : Int) - 1))) fun r2 =>
      sif (!r2) (some (0, false, 2, ([] : List ByteArray), ([] : List (Int × ByteArray)))) <|
      sbind (spec_l09Own d_Blocks d_Pending d_Fuse d_Off) fun r3 =>
      sbind (spec_l09Write_wvv k data r3.1 r3.2.1 r3.2.2.1 r3.2.2.2) fun r4 =>
      sif ((r4.1 == 5)) (some (0, false, r4.1, ([] : List ByteArray), ([] : List (Int × ByteArray)))) <|
      some (r4.2.1, r4.2.2.1, r4.1, r4.2.2.2.1, r4.2.2.2.2)) := sem_eq (f := 7) (m := 0) rfl (by kernel_rfl)
theorem spec_l09Ok_eq (d_Blocks : List ByteArray) (d_Pending : List (Int × ByteArray)) (d_Fuse : Int) (d_Off : Bool) :
    spec_l09Ok d_Blocks d_Pending d_Fuse d_Off = (
      sbind (spec_l00In (d_Blocks.length : Int) 16 256) fun r1 =>
      sif (!r1) (some false) <|
      sif (decide ((d_Pending.length : Int) > 600)) (some false) <|
      sbind (spec_l00In d_Fuse (-1) 100000) fun r2 =>
      sif (!r2) (some false) <|
      spec_l09Ok_l5 (d_Blocks.length : Int) 0 d_Blocks d_Pending d_Fuse d_Off) := sem_eq (f := 28) (m := 0) rfl (by kernel_rfl)
theorem spec_l09Ok_l5_eq (n : Int) (i : Int) (d_Blocks : List ByteArray) (d_Pending : List (Int × ByteArray)) (d_Fuse : Int) (d_Off : Bool) :
    spec_l09Ok_l5 n i d_Blocks d_Pending d_Fuse d_Off = (
      sif (decide (i < (d_Blocks.length : Int)))
       (sbind (idx d_Blocks i) fun x1 =>
        sif (((x1.size : Int) != 64)) (some false) <|
        spec_l09Ok_l5 n (wi64 (i + 1)) d_Blocks d_Pending d_Fuse d_Off) (spec_l09Ok_l10 n 0 d_Blocks d_Pending d_Fuse d_Off)) := seml_eq (f := 28) (m := 0) (l := 5) (by kernel_rfl)
theorem spec_l09Ok_l10_eq (n : Int) (i : Int) (d_Blocks : List ByteArray) (d_Pending : List (Int × ByteArray)) (d_Fuse : Int) (d_Off : Bool) :
    spec_l09Ok_l10 n i d_Blocks d_Pending d_Fuse d_Off = (
      sif (decide (i < (d_Pending.length : Int)))
       (sbind (idx d_Pending i) fun x1 =>
        sbind (spec_l00In x1.1 0 (wi64 (n - 1))) fun r2 =>
        sif (!r2) (some false) <|
        sbind (idx d_Pending i) fun x3 =>
        sif (((x3.2.size : Int) != 64)) (some false) <|
        spec_l09Ok_l10 n (wi64 (i + 1)) d_Blocks d_Pending d_Fuse d_Off) (some true)) := seml_eq (f := 28) (m := 0) (l := 10) (by kernel_rfl)
theorem spec_l00In_eq (n : Int) (low : Int) (high : Int) :
    spec_l00In n low high = (
      sif (decide (n ≥ low)) (some (decide (n ≤ high))) (some false)) := sem_eq (f := 29) (m := 0) rfl (by kernel_rfl)
theorem spec_l09Own_eq (d_Blocks : List ByteArray) (d_Pending : List (Int × ByteArray)) (d_Fuse : Int) (d_Off : Bool) :
    spec_l09Own d_Blocks d_Pending d_Fuse d_Off = (
      sif (room (0 + d_Blocks.length) 16) (sif (room (0 + d_Pending.length) 24) (some (d_Fuse, d_Off, d_Blocks, d_Pending)) (none)) (none)) := sem_eq (f := 30) (m := 0) rfl (by kernel_rfl)
theorem spec_l09Write_wvv_eq (k : Int) (data : ByteArray) (d_Fuse : Int) (d_Off : Bool) (d_Blocks : List ByteArray) (d_Pending : List (Int × ByteArray)) :
    spec_l09Write_wvv k data d_Fuse d_Off d_Blocks d_Pending = (
      sif (d_Off) (some (13, d_Fuse, true, d_Blocks, d_Pending)) <|
      sif ((d_Fuse == 0)) (some (13, d_Fuse, true, d_Blocks, d_Pending)) <|
      sif (decide ((d_Pending.length : Int) ≥ 600)) (some (5, d_Fuse, d_Off, d_Blocks, d_Pending)) <|
      sbind (spec_l09Power_wvv d_Fuse d_Off d_Blocks d_Pending) fun r1 =>
      sif (room (r1.2.2.2.2.length + 1) 24) (some (0, r1.2.1, r1.2.2.1, r1.2.2.2.1, r1.2.2.2.2 ++ [(k, data)])) (none)) := sem_eq (f := 31) (m := 0) rfl (by kernel_rfl)
theorem spec_l09Power_wvv_eq (d_Fuse : Int) (d_Off : Bool) (d_Blocks : List ByteArray) (d_Pending : List (Int × ByteArray)) :
    spec_l09Power_wvv d_Fuse d_Off d_Blocks d_Pending = (
      sif (d_Off) (some (false, d_Fuse, true, d_Blocks, d_Pending)) <|
      sif ((d_Fuse == 0)) (some (false, d_Fuse, true, d_Blocks, d_Pending)) <|
      sif (decide (d_Fuse > 0)) (some (true, wi64 (d_Fuse - 1), d_Off, d_Blocks, d_Pending)) (some (true, d_Fuse, d_Off, d_Blocks, d_Pending))) := sem_eq (f := 65) (m := 0) rfl (by kernel_rfl)
theorem impl_WriteBlock_eq (d_Blocks : List ByteArray) (d_Pending : List (Int × ByteArray)) (d_Fuse : Int) (d_Off : Bool) (k : Int) (data : ByteArray) :
    impl_WriteBlock d_Blocks d_Pending d_Fuse d_Off k data = (
      sbind (impl_ValidDisk d_Blocks d_Pending d_Fuse d_Off) fun r1 =>
      sif (!r1) (some (0, false, 1, ([] : List ByteArray), ([] : List (Int × ByteArray)))) <|
      sbind (impl_isBlock data) fun r2 =>
      sif (!r2) (some (0, false, 1, ([] : List ByteArray), ([] : List (Int × ByteArray)))) <|
      sbind (impl_isIndex k (d_Blocks.length : Int)) fun r3 =>
      sif (!r3) (some (0, false, 2, ([] : List ByteArray), ([] : List (Int × ByteArray)))) <|
      sbind (impl_Disk_clone d_Blocks d_Pending d_Fuse d_Off) fun r4 =>
      sbind (impl_Disk_write_wvv k data r4.1 r4.2.1 r4.2.2.1 r4.2.2.2) fun r5 =>
      sbind (impl_powered_vv r5.2.1 r5.2.2.1 r5.1 r5.2.2.2.1 r5.2.2.2.2) fun r6 =>
      some (r6.1, r6.2.1, r6.2.2.1, r6.2.2.2.1, r6.2.2.2.2)) := sem_eq (f := 9) (m := 0) rfl (by kernel_rfl)
theorem impl_ValidDisk_eq (d_Blocks : List ByteArray) (d_Pending : List (Int × ByteArray)) (d_Fuse : Int) (d_Off : Bool) :
    impl_ValidDisk d_Blocks d_Pending d_Fuse d_Off = (
      sbind (impl_within (d_Blocks.length : Int) 16 256) fun r1 =>
      sif (!r1) (some false) <|
      sif (decide ((d_Pending.length : Int) > 600)) (some false) <|
      sbind (impl_within d_Fuse (-1) 100000) fun r2 =>
      sif (!r2) (some false) <|
      sbind (slices_ContainsFunc_sstring_string_d_ValidDisk_1 d_Blocks) fun r3 =>
      sif (r3) (some false) <|
      sbind (slices_ContainsFunc_simpl_Put_impl_Put_d_ValidDisk_2 d_Pending d_Blocks d_Pending d_Fuse d_Off) fun r4 =>
      some !r4) := sem_eq (f := 34) (m := 0) rfl (by kernel_rfl)
theorem impl_within_eq (n : Int) (low : Int) (high : Int) :
    impl_within n low high = (
      sif (decide (n ≥ low)) (some (decide (n ≤ high))) (some false)) := sem_eq (f := 67) (m := 0) rfl (by kernel_rfl)
theorem slices_ContainsFunc_sstring_string_d_ValidDisk_1_eq (s : List ByteArray) :
    slices_ContainsFunc_sstring_string_d_ValidDisk_1 s = (
      sbind (slices_IndexFunc_sstring_string_d_ValidDisk_1 s) fun r1 =>
      some (decide (r1 ≥ 0))) := sem_eq (f := 68) (m := 0) rfl (by kernel_rfl)
theorem slices_IndexFunc_sstring_string_d_ValidDisk_1_eq (s : List ByteArray) :
    slices_IndexFunc_sstring_string_d_ValidDisk_1 s = (
      slices_IndexFunc_sstring_string_d_ValidDisk_1_l2 s (s.length : Int) 0) := sem_eq (f := 94) (m := 0) rfl (by kernel_rfl)
theorem slices_IndexFunc_sstring_string_d_ValidDisk_1_l2_eq (s : List ByteArray) (t7 : Int) (t8 : Int) :
    slices_IndexFunc_sstring_string_d_ValidDisk_1_l2 s t7 t8 = (
      sif (decide (t8 < t7))
       (sbind (idx s t8) fun x1 =>
        sbind (impl_ValidDisk_1 x1) fun r2 =>
        sif (r2) (some t8) <|
        slices_IndexFunc_sstring_string_d_ValidDisk_1_l2 s t7 (wi64 (t8 + 1))) (some (-1))) := seml_eq (f := 94) (m := 0) (l := 2) (by kernel_rfl)
theorem impl_ValidDisk_1_eq (b : ByteArray) :
    impl_ValidDisk_1 b = (
      sbind (impl_isBlock b) fun r1 =>
      some !r1) := sem_eq (f := 69) (m := 0) rfl (by kernel_rfl)
theorem impl_isBlock_eq (s : ByteArray) :
    impl_isBlock s = (
      some ((s.size : Int) == 64)) := sem_eq (f := 35) (m := 0) rfl (by kernel_rfl)
theorem slices_ContainsFunc_simpl_Put_impl_Put_d_ValidDisk_2_eq (s : List (Int × ByteArray)) (c0_Blocks : List ByteArray) (c0_Pending : List (Int × ByteArray)) (c0_Fuse : Int) (c0_Off : Bool) :
    slices_ContainsFunc_simpl_Put_impl_Put_d_ValidDisk_2 s c0_Blocks c0_Pending c0_Fuse c0_Off = (
      sbind (slices_IndexFunc_simpl_Put_impl_Put_d_ValidDisk_2 s c0_Blocks c0_Pending c0_Fuse c0_Off) fun r1 =>
      some (decide (r1 ≥ 0))) := sem_eq (f := 70) (m := 0) rfl (by kernel_rfl)
theorem slices_IndexFunc_simpl_Put_impl_Put_d_ValidDisk_2_eq (s : List (Int × ByteArray)) (c0_Blocks : List ByteArray) (c0_Pending : List (Int × ByteArray)) (c0_Fuse : Int) (c0_Off : Bool) :
    slices_IndexFunc_simpl_Put_impl_Put_d_ValidDisk_2 s c0_Blocks c0_Pending c0_Fuse c0_Off = (
      slices_IndexFunc_simpl_Put_impl_Put_d_ValidDisk_2_l2 s (s.length : Int) 0 c0_Blocks c0_Pending c0_Fuse c0_Off) := sem_eq (f := 95) (m := 0) rfl (by kernel_rfl)
theorem slices_IndexFunc_simpl_Put_impl_Put_d_ValidDisk_2_l2_eq (s : List (Int × ByteArray)) (t7 : Int) (t8 : Int) (c0_Blocks : List ByteArray) (c0_Pending : List (Int × ByteArray)) (c0_Fuse : Int) (c0_Off : Bool) :
    slices_IndexFunc_simpl_Put_impl_Put_d_ValidDisk_2_l2 s t7 t8 c0_Blocks c0_Pending c0_Fuse c0_Off = (
      sif (decide (t8 < t7))
       (sbind (idx s t8) fun x1 =>
        sbind (impl_ValidDisk_2 x1.1 x1.2 c0_Blocks c0_Pending c0_Fuse c0_Off) fun r2 =>
        sif (r2) (some t8) <|
        slices_IndexFunc_simpl_Put_impl_Put_d_ValidDisk_2_l2 s t7 (wi64 (t8 + 1)) c0_Blocks c0_Pending c0_Fuse c0_Off) (some (-1))) := seml_eq (f := 95) (m := 0) (l := 2) (by kernel_rfl)
theorem impl_ValidDisk_2_eq (p_Block : Int) (p_Data : ByteArray) (t1_Blocks : List ByteArray) (t1_Pending : List (Int × ByteArray)) (t1_Fuse : Int) (t1_Off : Bool) :
    impl_ValidDisk_2 p_Block p_Data t1_Blocks t1_Pending t1_Fuse t1_Off = (
      sbind (impl_isIndex p_Block (t1_Blocks.length : Int)) fun r1 =>
      sif (!r1) (some true) <|
      sbind (impl_isBlock p_Data) fun r2 =>
      some !r2) := sem_eq (f := 71) (m := 0) rfl (by kernel_rfl)
theorem impl_isIndex_eq (i : Int) (many : Int) :
    impl_isIndex i many = (
      sbind (impl_within i 0 (wi64 (many - 1))) fun r1 =>
      some r1) := sem_eq (f := 36) (m := 0) rfl (by kernel_rfl)
theorem impl_Disk_clone_eq (d_Blocks : List ByteArray) (d_Pending : List (Int × ByteArray)) (d_Fuse : Int) (d_Off : Bool) :
    impl_Disk_clone d_Blocks d_Pending d_Fuse d_Off = (
      sbind (slices_Clone_sstring_string d_Blocks) fun r1 =>
      sbind (slices_Clone_simpl_Put_impl_Put d_Pending) fun r2 =>
      some (d_Fuse, d_Off, r1, r2)) := sem_eq (f := 37) (m := 0) rfl (by kernel_rfl)
theorem slices_Clone_sstring_string_eq (s : List ByteArray) :
    slices_Clone_sstring_string s = (
      sif (s.isEmpty) (sboth (some ([] : List ByteArray)) (sif (room (0 + s.length) 16) (some s) (none))) (sif (room (0 + s.length) 16) (some s) (none))) := sem_eq (f := 72) (m := 0) rfl (by kernel_rfl)
theorem slices_Clone_simpl_Put_impl_Put_eq (s : List (Int × ByteArray)) :
    slices_Clone_simpl_Put_impl_Put s = (
      sif (s.isEmpty) (sboth (some ([] : List (Int × ByteArray))) (sif (room (0 + s.length) 24) (some s) (none))) (sif (room (0 + s.length) 24) (some s) (none))) := sem_eq (f := 73) (m := 0) rfl (by kernel_rfl)
theorem impl_Disk_write_wvv_eq (k : Int) (data : ByteArray) (d_Fuse : Int) (d_Off : Bool) (d_Blocks : List ByteArray) (d_Pending : List (Int × ByteArray)) :
    impl_Disk_write_wvv k data d_Fuse d_Off d_Blocks d_Pending = (
      sbind (impl_Disk_power_wvv d_Fuse d_Off d_Blocks d_Pending) fun r1 =>
      sif ((r1.1 != 0)) (some (r1.1, r1.2.1, r1.2.2.1, r1.2.2.2.1, r1.2.2.2.2)) <|
      sif (decide ((r1.2.2.2.2.length : Int) ≥ 600)) (some (5, r1.2.1, r1.2.2.1, r1.2.2.2.1, r1.2.2.2.2)) <|
      sif (room (r1.2.2.2.2.length + 1) 24) (some (0, r1.2.1, r1.2.2.1, r1.2.2.2.1, r1.2.2.2.2 ++ [(k, data)])) (none)) := sem_eq (f := 38) (m := 0) rfl (by kernel_rfl)
theorem impl_Disk_power_wvv_eq (d_Fuse : Int) (d_Off : Bool) (d_Blocks : List ByteArray) (d_Pending : List (Int × ByteArray)) :
    impl_Disk_power_wvv d_Fuse d_Off d_Blocks d_Pending = (
      sif (d_Off) (some (13, d_Fuse, true, d_Blocks, d_Pending)) <|
      sif ((d_Fuse == 0)) (some (13, d_Fuse, true, d_Blocks, d_Pending)) <|
      sif (decide (d_Fuse > 0)) (some (0, wi64 (d_Fuse - 1), d_Off, d_Blocks, d_Pending)) (some (0, d_Fuse, d_Off, d_Blocks, d_Pending))) := sem_eq (f := 74) (m := 0) rfl (by kernel_rfl)
theorem impl_powered_vv_eq (d_Fuse : Int) (d_Off : Bool) (code : Int) (d_Blocks : List ByteArray) (d_Pending : List (Int × ByteArray)) :
    impl_powered_vv d_Fuse d_Off code d_Blocks d_Pending = (
      sif ((code != 0))
       (sif ((code != 13)) (some (0, false, code, ([] : List ByteArray), ([] : List (Int × ByteArray)))) (some (d_Fuse, d_Off, code, d_Blocks, d_Pending))) (some (d_Fuse, d_Off, code, d_Blocks, d_Pending))) := sem_eq (f := 39) (m := 0) rfl (by kernel_rfl)
theorem laws_eqDisk_eq (a_Blocks : List ByteArray) (a_Pending : List (Int × ByteArray)) (a_Fuse : Int) (a_Off : Bool) (b_Blocks : List ByteArray) (b_Pending : List (Int × ByteArray)) (b_Fuse : Int) (b_Off : Bool) :
    laws_eqDisk a_Blocks a_Pending a_Fuse a_Off b_Blocks b_Pending b_Fuse b_Off = (
      sbind (laws_eqStringS a_Blocks b_Blocks) fun r1 =>
      sif (!r1) (some false) <|
      sbind (laws_eqPutS a_Pending b_Pending) fun r2 =>
      sif (!r2) (some false) <|
      sif ((a_Fuse != b_Fuse)) (some false) (sif (!(a_Off == b_Off)) (some false) (some true))) := sem_eq (f := 10) (m := 0) rfl (by kernel_rfl)
theorem laws_eqStringS_eq (a : List ByteArray) (b : List ByteArray) :
    laws_eqStringS a b = (
      sif (((a.length : Int) != (b.length : Int))) (some false) (laws_eqStringS_l4 a b 0)) := sem_eq (f := 40) (m := 0) rfl (by kernel_rfl)
theorem laws_eqStringS_l4_eq (a : List ByteArray) (b : List ByteArray) (i : Int) :
    laws_eqStringS_l4 a b i = (
      sif (decide (i < (a.length : Int)))
       (sbind (idx a i) fun x1 =>
        sbind (idx b i) fun x2 =>
        sif (!seq x1 x2) (some false) (laws_eqStringS_l4 a b (wi64 (i + 1)))) (some true)) := seml_eq (f := 40) (m := 0) (l := 4) (by kernel_rfl)
theorem laws_eqPutS_eq (a : List (Int × ByteArray)) (b : List (Int × ByteArray)) :
    laws_eqPutS a b = (
      sif (((a.length : Int) != (b.length : Int))) (some false) (laws_eqPutS_l4 a b 0)) := sem_eq (f := 41) (m := 0) rfl (by kernel_rfl)
theorem laws_eqPutS_l4_eq (a : List (Int × ByteArray)) (b : List (Int × ByteArray)) (i : Int) :
    laws_eqPutS_l4 a b i = (
      sif (decide (i < (a.length : Int)))
       (sbind (idx a i) fun x1 =>
        sbind (idx b i) fun x2 =>
        sbind (laws_eqPut x1.1 x1.2 x2.1 x2.2) fun r3 =>
        sif (!r3) (some false) (laws_eqPutS_l4 a b (wi64 (i + 1)))) (some true)) := seml_eq (f := 41) (m := 0) (l := 4) (by kernel_rfl)
theorem laws_eqPut_eq (a_Block : Int) (a_Data : ByteArray) (b_Block : Int) (b_Data : ByteArray) :
    laws_eqPut a_Block a_Data b_Block b_Data = (
      sif ((a_Block != b_Block)) (some false) (sif (!seq a_Data b_Data) (some false) (some true))) := sem_eq (f := 75) (m := 0) rfl (by kernel_rfl)
theorem laws_markDisk_vv_eq (a_Fuse : Int) (a_Off : Bool) (k : Int) (a_Blocks : List ByteArray) (a_Pending : List (Int × ByteArray)) :
    laws_markDisk_vv a_Fuse a_Off k a_Blocks a_Pending = (
      sbind (laws_markStringS_v k a_Blocks) fun r1 =>
      sbind (laws_markPutS_v r1.1 a_Pending) fun r2 =>
      some (r2.1, r1.2, r2.2)) := sem_eq (f := 11) (m := 0) rfl (by kernel_rfl)
theorem laws_markStringS_v_eq (k : Int) (a : List ByteArray) :
    laws_markStringS_v k a = (
      laws_markStringS_v_l2 k 0 a) := sem_eq (f := 42) (m := 0) rfl (by kernel_rfl)
theorem laws_markStringS_v_l2_eq (k : Int) (i : Int) (a : List ByteArray) :
    laws_markStringS_v_l2 k i a = (
      sif (decide (i < (a.length : Int)))
       (sbind (laws_markText k) fun r1 =>
        sif (lt3 0 i (a.length : Int)) (laws_markStringS_v_l2 (wi64 (k + 1)) (wi64 (i + 1)) (a.set i.toNat r1)) (none)) (some (k, a))) := seml_eq (f := 42) (m := 0) (l := 2) (by kernel_rfl)
theorem laws_markText_eq (k : Int) :
    laws_markText k = (
      sif (decide (k ≤ 0)) (some (bs [109, 48])) (laws_markText_l4 k (bs []))) := sem_eq (f := 76) (m := 0) rfl (by kernel_rfl)
theorem laws_markText_l4_eq (k : Int) (out : ByteArray) :
    laws_markText_l4 k out = (
      sif (decide (k > 0))
       (sif (joins (toB [wu8 (wi64 (48 + (Int.tmod k 10)))]) out)
         (laws_markText_l4 (wi64 (Int.tdiv k 10)) ((toB [wu8 (wi64 (48 + (Int.tmod k 10)))]) ++ out)) (none)) <|
      sif (joins (bs [109]) out) (some ((bs [109]) ++ out)) (none)) := seml_eq (f := 76) (m := 0) (l := 4) (by kernel_rfl)
theorem laws_markPutS_v_eq (k : Int) (a : List (Int × ByteArray)) :
    laws_markPutS_v k a = (
      laws_markPutS_v_l2 k 0 a) := sem_eq (f := 43) (m := 0) rfl (by kernel_rfl)
theorem laws_markPutS_v_l2_eq (k : Int) (i : Int) (a : List (Int × ByteArray)) :
    laws_markPutS_v_l2 k i a = (
      sif (decide (i < (a.length : Int)))
       (sif (lt3 0 i (a.length : Int))
         (sbind (a[i.toNat]?) fun x1 =>
          sbind (laws_markText (wi64 (k + 1))) fun r2 =>
          sif (lt3 0 i ((a.set i.toNat (k, x1.2)).length : Int))
           (sbind ((a.set i.toNat (k, x1.2))[i.toNat]?) fun x3 =>
            laws_markPutS_v_l2 (wi64 ((wi64 (k + 1)) + 1)) (wi64 (i + 1)) ((a.set i.toNat (k, x1.2)).set i.toNat (x3.1, r2))) (none)) (none)) (some (k, a))) := seml_eq (f := 43) (m := 0) (l := 2) (by kernel_rfl)
theorem laws_heldDisk_eq (a_Blocks : List ByteArray) (a_Pending : List (Int × ByteArray)) (a_Fuse : Int) (a_Off : Bool) (k : Int) :
    laws_heldDisk a_Blocks a_Pending a_Fuse a_Off k = (
      sbind (laws_heldStringS a_Blocks k) fun r1 =>
      sif (decide (r1 < 0)) (some (-1)) <|
      sbind (laws_heldPutS a_Pending r1) fun r2 =>
      sif (decide (r2 < 0)) (some (-1)) (some r2)) := sem_eq (f := 12) (m := 0) rfl (by kernel_rfl)
theorem laws_heldStringS_eq (a : List ByteArray) (k : Int) :
    laws_heldStringS a k = (
      laws_heldStringS_l2 a k 0) := sem_eq (f := 44) (m := 0) rfl (by kernel_rfl)
theorem laws_heldStringS_l2_eq (a : List ByteArray) (k : Int) (i : Int) :
    laws_heldStringS_l2 a k i = (
      sif (decide (i < (a.length : Int)))
       (sbind (idx a i) fun x1 =>
        sbind (laws_markText k) fun r2 =>
        sif (!seq x1 r2) (some (-1)) <|
        laws_heldStringS_l2 a (wi64 (k + 1)) (wi64 (i + 1))) (some k)) := seml_eq (f := 44) (m := 0) (l := 2) (by kernel_rfl)
theorem laws_heldPutS_eq (a : List (Int × ByteArray)) (k : Int) :
    laws_heldPutS a k = (
      laws_heldPutS_l2 a k 0) := sem_eq (f := 45) (m := 0) rfl (by kernel_rfl)
theorem laws_heldPutS_l2_eq (a : List (Int × ByteArray)) (k : Int) (i : Int) :
    laws_heldPutS_l2 a k i = (
      sif (decide (i < (a.length : Int)))
       (sbind (idx a i) fun x1 =>
        sif ((x1.1 != k)) (some (-1)) <|
        sbind (idx a i) fun x2 =>
        sbind (laws_markText (wi64 (k + 1))) fun r3 =>
        sif (!seq x2.2 r3) (some (-1)) <|
        laws_heldPutS_l2 a (wi64 ((wi64 (k + 1)) + 1)) (wi64 (i + 1))) (some k)) := seml_eq (f := 45) (m := 0) (l := 2) (by kernel_rfl)
end Go.Ve.X
