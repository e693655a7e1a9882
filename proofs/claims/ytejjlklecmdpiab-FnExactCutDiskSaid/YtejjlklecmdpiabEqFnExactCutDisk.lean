/- The equations of the functions that 'FnExactCutDisk' reaches (printed by plan.py): what each answers. No condition. -/
import Derived.Test.YtejjlklecmdpiabEnvFnExactCutDisk
namespace Go.Ve.X
open Go.Proofs Go.Ve
set_option linter.unusedVariables false
set_option maxRecDepth 100000
theorem laws_FnExactCutDisk_eq (aD_Blocks : List ByteArray) (aD_Pending : List (Int × ByteArray)) (aD_Fuse : Int) (aD_Off : Bool) (aC_Mask : Int) (aC_Torn : Int) (aC_Bytes : Int) :
    laws_FnExactCutDisk aD_Blocks aD_Pending aD_Fuse aD_Off aC_Mask aC_Torn aC_Bytes = (
      sbind (laws_szDisk aD_Blocks aD_Pending aD_Fuse aD_Off 1048576) fun r1 =>
      sif (decide (r1 < 0)) (some true) <|
      sbind (laws_toDisk aD_Blocks aD_Pending aD_Fuse aD_Off) fun r2 =>
      sbind (laws_toCut aC_Mask aC_Torn aC_Bytes) fun r3 =>
      sbind (spec_CutDisk r2.2.2.1 r2.2.2.2 r2.1 r2.2.1 r3.1 r3.2.1 r3.2.2) fun r4 =>
      sbind (laws_toDisk aD_Blocks aD_Pending aD_Fuse aD_Off) fun r5 =>
      sbind (laws_toCut aC_Mask aC_Torn aC_Bytes) fun r6 =>
      sbind (impl_CutDisk r5.2.2.1 r5.2.2.2 r5.1 r5.2.1 r6.1 r6.2.1 r6.2.2) fun r7 =>
      sbind (laws_eqDisk r7.2.2.2.1 r7.2.2.2.2 r7.1 r7.2.1 r4.2.2.2.1 r4.2.2.2.2 r4.1 r4.2.1) fun r8 =>
      sif (!r8) (some false) <|
      sif ((r7.2.2.1 != r4.2.2.1)) (some false) <|
      sbind (laws_toDisk aD_Blocks aD_Pending aD_Fuse aD_Off) fun r9 =>
      sbind (laws_eqDisk r5.2.2.1 r5.2.2.2 r5.1 r5.2.1 r9.2.2.1 r9.2.2.2 r9.1 r9.2.1) fun r10 =>
      sif (!r10) (some false) <|
      sbind (laws_markDisk_vv r5.1 r5.2.1 1 r5.2.2.1 r5.2.2.2) fun r11 =>
      sif (decide (r11.1 < 0)) (some false) <|
      sbind (laws_eqDisk r7.2.2.2.1 r7.2.2.2.2 r7.1 r7.2.1 r4.2.2.2.1 r4.2.2.2.2 r4.1 r4.2.1) fun r12 =>
      sif (!r12) (some false) <|
      sif ((r7.2.2.1 != r4.2.2.1)) (some false) <|
      sbind (laws_markDisk_vv r7.1 r7.2.1 1 r7.2.2.2.1 r7.2.2.2.2) fun r13 =>
      sbind (laws_heldDisk r13.2.1 r13.2.2 r7.1 r7.2.1 1) fun r14 =>
      sif (decide (r14 < 0)) (some false) <|
      sif ((r14 != r13.1)) (some false) <|
      sbind (laws_toDisk aD_Blocks aD_Pending aD_Fuse aD_Off) fun r15 =>
      sbind (laws_toCut aC_Mask aC_Torn aC_Bytes) fun r16 =>
      sbind (impl_CutDisk r15.2.2.1 r15.2.2.2 r15.1 r15.2.1 r16.1 r16.2.1 r16.2.2) fun r17 =>
      sbind (laws_eqDisk r17.2.2.2.1 r17.2.2.2.2 r17.1 r17.2.1 r4.2.2.2.1 r4.2.2.2.2 r4.1 r4.2.1) fun r18 =>
      sif (!r18) (some false) <|
      sif ((r17.2.2.1 != r4.2.2.1)) (some false) <|
      sbind (laws_heldDisk r13.2.1 r13.2.2 r7.1 r7.2.1 1) fun r19 =>
      sif (decide (r19 < 0)) (some false) (sif ((r19 != r13.1)) (some false) (some true))) := sem_eq (f := 4) (m := 0) rfl (by kernel_rfl)
theorem laws_szDisk_eq (a_Blocks : List ByteArray) (a_Pending : List (Int × ByteArray)) (a_Fuse : Int) (a_Off : Bool) (left : Int) :
    laws_szDisk a_Blocks a_Pending a_Fuse a_Off left = (
      sbind (laws_szStringS a_Blocks left) fun r1 =>
      sif (decide (r1 < 0)) (some (-1)) <|
      sbind (laws_szPutS a_Pending r1) fun r2 =>
      sif (decide (r2 < 0)) (some (-1)) (some r2)) := sem_eq (f := 6) (m := 0) rfl (by kernel_rfl)
theorem laws_szStringS_eq (a : List ByteArray) (left : Int) :
    laws_szStringS a left = (
      sif (decide (wi64 (left - (a.length : Int)) < 0)) (some (-1)) <|
      laws_szStringS_l5 a (wi64 (left - (a.length : Int))) 0) := sem_eq (f := 26) (m := 0) rfl (by kernel_rfl)
theorem laws_szStringS_l5_eq (a : List ByteArray) (left : Int) (i : Int) :
    laws_szStringS_l5 a left i = (
      sif (decide (i < (a.length : Int)))
       (sbind (idx a i) fun x1 =>
        sif (decide (wi64 (left - (x1.size : Int)) < 0)) (some (-1)) <|
        laws_szStringS_l5 a (wi64 (left - (x1.size : Int))) (wi64 (i + 1))) (some left)) := seml_eq (f := 26) (m := 0) (l := 5) (by kernel_rfl)
theorem laws_szPutS_eq (a : List (Int × ByteArray)) (left : Int) :
    laws_szPutS a left = (
      sif (decide (wi64 (left - (a.length : Int)) < 0)) (some (-1)) (laws_szPutS_l5 a (wi64 (left - (a.length : Int))) 0)) := sem_eq (f := 27) (m := 0) rfl (by kernel_rfl)
theorem laws_szPutS_l5_eq (a : List (Int × ByteArray)) (left : Int) (i : Int) :
    laws_szPutS_l5 a left i = (
      sif (decide (i < (a.length : Int)))
       (sbind (idx a i) fun x1 =>
        sbind (laws_szPut x1.1 x1.2 left) fun r2 =>
        sif (decide (r2 < 0)) (some (-1)) (laws_szPutS_l5 a r2 (wi64 (i + 1)))) (some left)) := seml_eq (f := 27) (m := 0) (l := 5) (by kernel_rfl)
theorem laws_szPut_eq (a_Block : Int) (a_Data : ByteArray) (left : Int) :
    laws_szPut a_Block a_Data left = (
      sif (decide (wi64 (left - (a_Data.size : Int)) < 0)) (some (-1)) (some (wi64 (left - (a_Data.size : Int))))) := sem_eq (f := 64) (m := 0) rfl (by kernel_rfl)
theorem laws_toDisk_eq (a_Blocks : List ByteArray) (a_Pending : List (Int × ByteArray)) (a_Fuse : Int) (a_Off : Bool) :
    laws_toDisk a_Blocks a_Pending a_Fuse a_Off = (
      sbind (laws_toStringS a_Blocks) fun r1 =>
      sbind (laws_toPutS a_Pending) fun r2 =>
      some (a_Fuse, a_Off, r1, r2)) := sem_eq (f := 8) (m := 0) rfl (by kernel_rfl)
theorem laws_toStringS_eq (a : List ByteArray) :
    laws_toStringS a = (
      sif (le3 0 (a.length : Int) (a.length : Int) && room a.length 16) (laws_toStringS_l3 a 0 (List.replicate a.length (bs [] : ByteArray))) (none)) := sem_eq (f := 32) (m := 0) rfl (by kernel_rfl)
theorem laws_toStringS_l3_eq (a : List ByteArray) (i : Int) (out : List ByteArray) :
    laws_toStringS_l3 a i out = (
      sif (decide (i < (a.length : Int)))
       (sbind (idx a i) fun x1 =>
        sif (lt3 0 i (out.length : Int)) (laws_toStringS_l3 a (wi64 (i + 1)) (out.set i.toNat x1)) (none)) (some out)) := seml_eq (f := 32) (m := 0) (l := 3) (by kernel_rfl)
theorem laws_toPutS_eq (a : List (Int × ByteArray)) :
    laws_toPutS a = (
      sif (le3 0 (a.length : Int) (a.length : Int) && room a.length 24) (laws_toPutS_l3 a 0 (List.replicate a.length ((0, bs []) : Int × ByteArray))) (none)) := sem_eq (f := 33) (m := 0) rfl (by kernel_rfl)
theorem laws_toPutS_l3_eq (a : List (Int × ByteArray)) (i : Int) (out : List (Int × ByteArray)) :
    laws_toPutS_l3 a i out = (
      sif (decide (i < (a.length : Int)))
       (sbind (idx a i) fun x1 =>
        sbind (laws_toPut x1.1 x1.2) fun r2 =>
        sif (lt3 0 i (out.length : Int)) (laws_toPutS_l3 a (wi64 (i + 1)) (out.set i.toNat (r2.1, r2.2))) (none)) (some out)) := seml_eq (f := 33) (m := 0) (l := 3) (by kernel_rfl)
theorem laws_toPut_eq (a_Block : Int) (a_Data : ByteArray) :
    laws_toPut a_Block a_Data = (
      some (a_Block, a_Data)) := sem_eq (f := 66) (m := 0) rfl (by kernel_rfl)
theorem laws_toCut_eq (a_Mask : Int) (a_Torn : Int) (a_Bytes : Int) :
    laws_toCut a_Mask a_Torn a_Bytes = (
      some (a_Mask, a_Torn, a_Bytes)) := sem_eq (f := 14) (m := 0) rfl (by kernel_rfl)
theorem spec_CutDisk_eq (d_Blocks : List ByteArray) (d_Pending : List (Int × ByteArray)) (d_Fuse : Int) (d_Off : Bool) (c_Mask : Int) (c_Torn : Int) (c_Bytes : Int) :
    spec_CutDisk d_Blocks d_Pending d_Fuse d_Off c_Mask c_Torn c_Bytes = (
      sbind (spec_l09Ok d_Blocks d_Pending d_Fuse d_Off) fun r1 =>
      sif (!r1) (some (0, false, 1, ([] : List ByteArray), ([] : List (Int × ByteArray)))) <|
      sbind (spec_ValidCut c_Mask c_Torn c_Bytes) fun r2 =>
      sif (!r2) (some (0, false, 1, ([] : List ByteArray), ([] : List (Int × ByteArray)))) <|
      sbind (spec_l30Cut c_Mask c_Torn c_Bytes d_Blocks d_Pending d_Fuse d_Off) fun r3 =>
      some (r3.1, r3.2.1, 0, r3.2.2.1, r3.2.2.2)) := sem_eq (f := 13) (m := 0) rfl (by kernel_rfl)
theorem spec_l09Ok_eq (d_Blocks : List ByteArray) (d_Pending : List (Int × ByteArray)) (d_Fuse : Int) (d_Off : Bool) :
    spec_l09Ok d_Blocks d_Pending d_Fuse d_Off = (
      sbind (spec_l00In (d_Blocks.length : Int) 16 256) fun r1 =>
      sif (!r1) (some false) <|
      sif (decide ((d_Pending.length : Int) > 600)) (some false) <|
      sbind (spec_l00In d_Fuse (-1) 100000) fun r2 =>
      sif (!r2) (some false) <|
      spec_l09Ok_l5 (d_Blocks.length : Int) 0 d_Blocks d_Pending d_Fuse d_Off) := sem_eq (f := 28) (m := 0) rfl (by kernel_rfl)
theorem spec_l09Ok_l5_eq (n : Int) (i : Int) (d_Blocks : List ByteArray) (d_Pending : List (Int × ByteArray)) (d_Fuse : Int) (d_Off : Bool) :
    spec_l09Ok_l5 n i d_Blocks d_Pending d_Fuse d_Off = (
      sif (decide (i < (d_Blocks.length : Int)))
       (sbind (idx d_Blocks i) fun x1 =>
        sif (((x1.size : Int) != 64)) (some false) <|
        spec_l09Ok_l5 n (wi64 (i + 1)) d_Blocks d_Pending d_Fuse d_Off) (spec_l09Ok_l10 n 0 d_Blocks d_Pending d_Fuse d_Off)) := seml_eq (f := 28) (m := 0) (l := 5) (by kernel_rfl)
theorem spec_l09Ok_l10_eq (n : Int) (i : Int) (d_Blocks : List ByteArray) (d_Pending : List (Int × ByteArray)) (d_Fuse : Int) (d_Off : Bool) :
    spec_l09Ok_l10 n i d_Blocks d_Pending d_Fuse d_Off = (
      sif (decide (i < (d_Pending.length : Int)))
       (sbind (idx d_Pending i) fun x1 =>
        sbind (spec_l00In x1.1 0 (wi64 (n - 1))) fun r2 =>
        sif (!r2) (some false) <|
        sbind (idx d_Pending i) fun x3 =>
        sif (((x3.2.size : Int) != 64)) (some false) <|
        spec_l09Ok_l10 n (wi64 (i + 1)) d_Blocks d_Pending d_Fuse d_Off) (some true)) := seml_eq (f := 28) (m := 0) (l := 10) (by kernel_rfl)
theorem spec_l00In_eq (n : Int) (low : Int) (high : Int) :
    spec_l00In n low high = (
      sif (decide (n ≥ low)) (some (decide (n ≤ high))) (some false)) := sem_eq (f := 29) (m := 0) rfl (by kernel_rfl)
theorem spec_ValidCut_eq (c_Mask : Int) (c_Torn : Int) (c_Bytes : Int) :
    spec_ValidCut c_Mask c_Torn c_Bytes = (
      sbind (spec_l00In c_Mask 0 1073741823) fun r1 =>
      sif (r1)
       (sbind (spec_l00In c_Torn (-1) 599) fun r2 =>
        sif (r2)
         (sbind (spec_l00In c_Bytes 0 64) fun r3 =>
          some r3) (some false)) (some false)) := sem_eq (f := 46) (m := 0) rfl (by kernel_rfl)
theorem spec_l30Cut_eq (c_Mask : Int) (c_Torn : Int) (c_Bytes : Int) (d_Blocks : List ByteArray) (d_Pending : List (Int × ByteArray)) (d_Fuse : Int) (d_Off : Bool) :
    spec_l30Cut c_Mask c_Torn c_Bytes d_Blocks d_Pending d_Fuse d_Off = (
      sif (decide (c_Torn ≥ (d_Pending.length : Int)))
       (sbind (spec_l30Kept c_Mask c_Torn c_Bytes (d_Pending.length : Int)) fun r1 =>
        sbind (spec_l09Cut r1 (-1) c_Bytes d_Blocks d_Pending d_Fuse d_Off) fun r2 =>
        some (r2.1, r2.2.1, r2.2.2.1, r2.2.2.2)) <|
      sbind (spec_l30Kept c_Mask c_Torn c_Bytes (d_Pending.length : Int)) fun r1 =>
      sbind (spec_l09Cut r1 c_Torn c_Bytes d_Blocks d_Pending d_Fuse d_Off) fun r2 =>
      some (r2.1, r2.2.1, r2.2.2.1, r2.2.2.2)) := sem_eq (f := 47) (m := 0) rfl (by kernel_rfl)
theorem spec_l30Kept_eq (c_Mask : Int) (c_Torn : Int) (c_Bytes : Int) (n : Int) :
    spec_l30Kept c_Mask c_Torn c_Bytes n = (
      spec_l30Kept_l3 n 0 c_Mask c_Torn c_Bytes ([] : List Bool)) := sem_eq (f := 78) (m := 0) rfl (by kernel_rfl)
theorem spec_l30Kept_l3_eq (n : Int) (i : Int) (c_Mask : Int) (c_Torn : Int) (c_Bytes : Int) (out : List Bool) :
    spec_l30Kept_l3 n i c_Mask c_Torn c_Bytes out = (
      sif (decide (i < n))
       (sif (decide (wu64 (Int.tmod i 30) < 0)) (none) <|
        sif (room (out.length + 1) 1)
         (spec_l30Kept_l3 n (wi64 (i + 1)) c_Mask c_Torn c_Bytes (out ++ [((bits .and .i64 (Int.fdiv c_Mask (2 ^ (min (wu64 (Int.tmod i 30)).toNat 64))) 1) == 1)])) (none)) (some out)) := seml_eq (f := 78) (m := 0) (l := 3) (by kernel_rfl)
theorem spec_l09Cut_eq (kept : List Bool) (torn : Int) (bytes : Int) (d_Blocks : List ByteArray) (d_Pending : List (Int × ByteArray)) (d_Fuse : Int) (d_Off : Bool) :
    spec_l09Cut kept torn bytes d_Blocks d_Pending d_Fuse d_Off = (
      sbind (spec_l09Own d_Blocks d_Pending d_Fuse d_Off) fun r1 =>
      spec_l09Cut_l3 kept torn bytes 0 d_Blocks d_Pending d_Fuse d_Off 0 false r1.1 r1.2.1 ([] : List ByteArray) ([] : List (Int × ByteArray)) r1.2.2.1 r1.2.2.2) := sem_eq (f := 77) (m := 0) rfl (by kernel_rfl)
theorem spec_l09Cut_l3_eq (kept : List Bool) (torn : Int) (bytes : Int) (i : Int) (d_Blocks : List ByteArray) (d_Pending : List (Int × ByteArray)) (d_Fuse : Int) (d_Off : Bool) (t8_Fuse : Int) (t8_Off : Bool) (out_Fuse : Int) (out_Off : Bool) (t8_Blocks : List ByteArray) (t8_Pending : List (Int × ByteArray)) (out_Blocks : List ByteArray) (out_Pending : List (Int × ByteArray)) :
    spec_l09Cut_l3 kept torn bytes i d_Blocks d_Pending d_Fuse d_Off t8_Fuse t8_Off out_Fuse out_Off t8_Blocks t8_Pending out_Blocks out_Pending = (
      sif (decide (i < (d_Pending.length : Int)))
       (sbind (idx d_Pending i) fun x1 =>
        sif ((i == torn))
         (sif (le3 0 bytes (x1.2.size : Int))
           (sif (lt3 0 x1.1 (out_Blocks.length : Int))
             (sbind (out_Blocks[x1.1.toNat]?) fun x2 =>
              sif (le3 0 bytes (x2.size : Int))
               (sif (joins (x1.2.extract 0 bytes.toNat) (x2.extract bytes.toNat x2.size))
                 (sif (lt3 0 x1.1 (out_Blocks.length : Int))
                   (spec_l09Cut_l3 kept torn bytes (wi64 (i + 1)) d_Blocks d_Pending d_Fuse d_Off t8_Fuse t8_Off out_Fuse out_Off t8_Blocks t8_Pending (out_Blocks.set x1.1.toNat ((x1.2.extract 0 bytes.toNat) ++ (x2.extract bytes.toNat x2.size))) out_Pending) (none)) (none)) (none)) (none)) (none)) <|
        sbind (idx kept i) fun x2 =>
        sif (x2)
         (sif (lt3 0 x1.1 (out_Blocks.length : Int))
           (spec_l09Cut_l3 kept torn bytes (wi64 (i + 1)) d_Blocks d_Pending d_Fuse d_Off t8_Fuse t8_Off out_Fuse out_Off t8_Blocks t8_Pending (out_Blocks.set x1.1.toNat x1.2) out_Pending) (none)) <|
        spec_l09Cut_l3 kept torn bytes (wi64 (i + 1)) d_Blocks d_Pending d_Fuse d_Off t8_Fuse t8_Off out_Fuse out_Off t8_Blocks t8_Pending out_Blocks out_Pending) <|
      some ((-1), false, out_Blocks, ([] : List (Int × ByteArray)))) := seml_eq (f := 77) (m := 0) (l := 3) (by kernel_rfl)
theorem spec_l09Own_eq (d_Blocks : List ByteArray) (d_Pending : List (Int × ByteArray)) (d_Fuse : Int) (d_Off : Bool) :
    spec_l09Own d_Blocks d_Pending d_Fuse d_Off = (
      sif (room (0 + d_Blocks.length) 16) (sif (room (0 + d_Pending.length) 24) (some (d_Fuse, d_Off, d_Blocks, d_Pending)) (none)) (none)) := sem_eq (f := 30) (m := 0) rfl (by kernel_rfl)
theorem impl_CutDisk_eq (d_Blocks : List ByteArray) (d_Pending : List (Int × ByteArray)) (d_Fuse : Int) (d_Off : Bool) (c_Mask : Int) (c_Torn : Int) (c_Bytes : Int) :
    impl_CutDisk d_Blocks d_Pending d_Fuse d_Off c_Mask c_Torn c_Bytes = (
      sbind (impl_ValidDisk d_Blocks d_Pending d_Fuse d_Off) fun r1 =>
      sif (!r1) (some (0, false, 1, ([] : List ByteArray), ([] : List (Int × ByteArray)))) <|
      sbind (impl_ValidCut c_Mask c_Torn c_Bytes) fun r2 =>
      sif (!r2) (some (0, false, 1, ([] : List ByteArray), ([] : List (Int × ByteArray)))) <|
      sbind (impl_Disk_cut d_Blocks d_Pending d_Fuse d_Off c_Mask c_Torn c_Bytes) fun r3 =>
      some (r3.1, r3.2.1, 0, r3.2.2.1, r3.2.2.2)) := sem_eq (f := 15) (m := 0) rfl (by kernel_rfl)
theorem impl_ValidDisk_eq (d_Blocks : List ByteArray) (d_Pending : List (Int × ByteArray)) (d_Fuse : Int) (d_Off : Bool) :
    impl_ValidDisk d_Blocks d_Pending d_Fuse d_Off = (
      sbind (impl_within (d_Blocks.length : Int) 16 256) fun r1 =>
      sif (!r1) (some false) <|
      sif (decide ((d_Pending.length : Int) > 600)) (some false) <|
      sbind (impl_within d_Fuse (-1) 100000) fun r2 =>
      sif (!r2) (some false) <|
      sbind (slices_ContainsFunc_sstring_string_d_ValidDisk_1 d_Blocks) fun r3 =>
      sif (r3) (some false) <|
      sbind (slices_ContainsFunc_simpl_Put_impl_Put_d_ValidDisk_2 d_Pending d_Blocks d_Pending d_Fuse d_Off) fun r4 =>
      some !r4) := sem_eq (f := 34) (m := 0) rfl (by kernel_rfl)
theorem impl_within_eq (n : Int) (low : Int) (high : Int) :
    impl_within n low high = (
      sif (decide (n ≥ low)) (some (decide (n ≤ high))) (some false)) := sem_eq (f := 67) (m := 0) rfl (by kernel_rfl)
theorem slices_ContainsFunc_sstring_string_d_ValidDisk_1_eq (s : List ByteArray) :
    slices_ContainsFunc_sstring_string_d_ValidDisk_1 s = (
      sbind (slices_IndexFunc_sstring_string_d_ValidDisk_1 s) fun r1 =>
      some (decide (r1 ≥ 0))) := sem_eq (f := 68) (m := 0) rfl (by kernel_rfl)
theorem slices_IndexFunc_sstring_string_d_ValidDisk_1_eq (s : List ByteArray) :
    slices_IndexFunc_sstring_string_d_ValidDisk_1 s = (
      slices_IndexFunc_sstring_string_d_ValidDisk_1_l2 s (s.length : Int) 0) := sem_eq (f := 94) (m := 0) rfl (by kernel_rfl)
theorem slices_IndexFunc_sstring_string_d_ValidDisk_1_l2_eq (s : List ByteArray) (t7 : Int) (t8 : Int) :
    slices_IndexFunc_sstring_string_d_ValidDisk_1_l2 s t7 t8 = (
      sif (decide (t8 < t7))
       (sbind (idx s t8) fun x1 =>
        sbind (impl_ValidDisk_1 x1) fun r2 =>
        sif (r2) (some t8) <|
        slices_IndexFunc_sstring_string_d_ValidDisk_1_l2 s t7 (wi64 (t8 + 1))) (some (-1))) := seml_eq (f := 94) (m := 0) (l := 2) (by kernel_rfl)
theorem impl_ValidDisk_1_eq (b : ByteArray) :
    impl_ValidDisk_1 b = (
      sbind (impl_isBlock b) fun r1 =>
      some !r1) := sem_eq (f := 69) (m := 0) rfl (by kernel_rfl)
theorem impl_isBlock_eq (s : ByteArray) :
    impl_isBlock s = (
      some ((s.size : Int) == 64)) := sem_eq (f := 35) (m := 0) rfl (by kernel_rfl)
theorem slices_ContainsFunc_simpl_Put_impl_Put_d_ValidDisk_2_eq (s : List (Int × ByteArray)) (c0_Blocks : List ByteArray) (c0_Pending : List (Int × ByteArray)) (c0_Fuse : Int) (c0_Off : Bool) :
    slices_ContainsFunc_simpl_Put_impl_Put_d_ValidDisk_2 s c0_Blocks c0_Pending c0_Fuse c0_Off = (
      sbind (slices_IndexFunc_simpl_Put_impl_Put_d_ValidDisk_2 s c0_Blocks c0_Pending c0_Fuse c0_Off) fun r1 =>
      some (decide (r1 ≥ 0))) := sem_eq (f := 70) (m := 0) rfl (by kernel_rfl)
theorem slices_IndexFunc_simpl_Put_impl_Put_d_ValidDisk_2_eq (s : List (Int × ByteArray)) (c0_Blocks : List ByteArray) (c0_Pending : List (Int × ByteArray)) (c0_Fuse : Int) (c0_Off : Bool) :
    slices_IndexFunc_simpl_Put_impl_Put_d_ValidDisk_2 s c0_Blocks c0_Pending c0_Fuse c0_Off = (
      slices_IndexFunc_simpl_Put_impl_Put_d_ValidDisk_2_l2 s (s.length : Int) 0 c0_Blocks c0_Pending c0_Fuse c0_Off) := sem_eq (f := 95) (m := 0) rfl (by kernel_rfl)
theorem slices_IndexFunc_simpl_Put_impl_Put_d_ValidDisk_2_l2_eq (s : List (Int × ByteArray)) (t7 : Int) (t8 : Int) (c0_Blocks : List ByteArray) (c0_Pending : List (Int × ByteArray)) (c0_Fuse : Int) (c0_Off : Bool) :
    slices_IndexFunc_simpl_Put_impl_Put_d_ValidDisk_2_l2 s t7 t8 c0_Blocks c0_Pending c0_Fuse c0_Off = (
      sif (decide (t8 < t7))
       (sbind (idx s t8) fun x1 =>
        sbind (impl_ValidDisk_2 x1.1 x1.2 c0_Blocks c0_Pending c0_Fuse c0_Off) fun r2 =>
        sif (r2) (some t8) <|
        slices_IndexFunc_simpl_Put_impl_Put_d_ValidDisk_2_l2 s t7 (wi64 (t8 + 1)) c0_Blocks c0_Pending c0_Fuse c0_Off) (some (-1))) := seml_eq (f := 95) (m := 0) (l := 2) (by kernel_rfl)
theorem impl_ValidDisk_2_eq (p_Block : Int) (p_Data : ByteArray) (t1_Blocks : List ByteArray) (t1_Pending : List (Int × ByteArray)) (t1_Fuse : Int) (t1_Off : Bool) :
    impl_ValidDisk_2 p_Block p_Data t1_Blocks t1_Pending t1_Fuse t1_Off = (
      sbind (impl_isIndex p_Block (t1_Blocks.length : Int)) fun r1 =>
      sif (!r1) (some true) <|
      sbind (impl_isBlock p_Data) fun r2 =>
      some !r2) := sem_eq (f := 71) (m := 0) rfl (by kernel_rfl)
theorem impl_isIndex_eq (i : Int) (many : Int) :
    impl_isIndex i many = (
      sbind (impl_within i 0 (wi64 (many - 1))) fun r1 =>
      some r1) := sem_eq (f := 36) (m := 0) rfl (by kernel_rfl)
theorem impl_ValidCut_eq (c_Mask : Int) (c_Torn : Int) (c_Bytes : Int) :
    impl_ValidCut c_Mask c_Torn c_Bytes = (
      sbind (impl_within c_Mask 0 1073741823) fun r1 =>
      sif (r1)
       (sbind (impl_within c_Torn (-1) 599) fun r2 =>
        sif (r2)
         (sbind (impl_within c_Bytes 0 64) fun r3 =>
          some r3) (some false)) (some false)) := sem_eq (f := 48) (m := 0) rfl (by kernel_rfl)
theorem impl_Disk_cut_eq (d_Blocks : List ByteArray) (d_Pending : List (Int × ByteArray)) (d_Fuse : Int) (d_Off : Bool) (c_Mask : Int) (c_Torn : Int) (c_Bytes : Int) :
    impl_Disk_cut d_Blocks d_Pending d_Fuse d_Off c_Mask c_Torn c_Bytes = (
      sif (decide (c_Torn ≥ (d_Pending.length : Int)))
       (sbind (impl_Cut_kept c_Mask c_Torn c_Bytes (d_Pending.length : Int)) fun r1 =>
        sbind (impl_Disk_afterCut d_Blocks d_Pending d_Fuse d_Off r1 (-1) c_Bytes) fun r2 =>
        some (r2.1, r2.2.1, r2.2.2.1, r2.2.2.2)) <|
      sbind (impl_Cut_kept c_Mask c_Torn c_Bytes (d_Pending.length : Int)) fun r1 =>
      sbind (impl_Disk_afterCut d_Blocks d_Pending d_Fuse d_Off r1 c_Torn c_Bytes) fun r2 =>
      some (r2.1, r2.2.1, r2.2.2.1, r2.2.2.2)) := sem_eq (f := 49) (m := 0) rfl (by kernel_rfl)
theorem impl_Cut_kept_eq (c_Mask : Int) (c_Torn : Int) (c_Bytes : Int) (n : Int) :
    impl_Cut_kept c_Mask c_Torn c_Bytes n = (
      impl_Cut_kept_l3 n 0 c_Mask c_Torn c_Bytes ([] : List Bool)) := sem_eq (f := 80) (m := 0) rfl (by kernel_rfl)
theorem impl_Cut_kept_l3_eq (t7 : Int) (t8 : Int) (c_Mask : Int) (c_Torn : Int) (c_Bytes : Int) (out : List Bool) :
    impl_Cut_kept_l3 t7 t8 c_Mask c_Torn c_Bytes out = (
      sif (decide (t8 < t7))
       (sif (decide (Int.tmod t8 30 < 0)) (none) <|
        sif (room (out.length + 1) 1)
         (impl_Cut_kept_l3 t7 (wi64 (t8 + 1)) c_Mask c_Torn c_Bytes (out ++ [((bits .and .i64 (Int.fdiv c_Mask (2 ^ (min (Int.tmod t8 30).toNat 64))) 1) == 1)])) (none)) (some out)) := seml_eq (f := 80) (m := 0) (l := 3) (by kernel_rfl)
theorem impl_Disk_afterCut_eq (d_Blocks : List ByteArray) (d_Pending : List (Int × ByteArray)) (d_Fuse : Int) (d_Off : Bool) (kept : List Bool) (torn : Int) (bytes : Int) :
    impl_Disk_afterCut d_Blocks d_Pending d_Fuse d_Off kept torn bytes = (
      sbind (slices_Clone_sstring_string d_Blocks) fun r1 =>
      impl_Disk_afterCut_l3 kept torn bytes d_Pending (d_Pending.length : Int) 0 0 false (-1) false ([] : List ByteArray) ([] : List (Int × ByteArray)) r1 ([] : List (Int × ByteArray))) := sem_eq (f := 79) (m := 0) rfl (by kernel_rfl)
theorem impl_Disk_afterCut_l3_eq (kept : List Bool) (torn : Int) (bytes : Int) (t18 : List (Int × ByteArray)) (t19 : Int) (t20 : Int) (t8_Fuse : Int) (t8_Off : Bool) (out_Fuse : Int) (out_Off : Bool) (t8_Blocks : List ByteArray) (t8_Pending : List (Int × ByteArray)) (out_Blocks : List ByteArray) (out_Pending : List (Int × ByteArray)) :
    impl_Disk_afterCut_l3 kept torn bytes t18 t19 t20 t8_Fuse t8_Off out_Fuse out_Off t8_Blocks t8_Pending out_Blocks out_Pending = (
      sif (decide (t20 < t19))
       (sbind (idx t18 t20) fun x1 =>
        sif ((t20 == torn))
         (sif (le3 0 bytes (x1.2.size : Int))
           (sif (lt3 0 x1.1 (out_Blocks.length : Int))
             (sbind (out_Blocks[x1.1.toNat]?) fun x2 =>
              sif (le3 0 bytes (x2.size : Int))
               (sif (joins (x1.2.extract 0 bytes.toNat) (x2.extract bytes.toNat x2.size))
                 (sif (lt3 0 x1.1 (out_Blocks.length : Int))
                   (impl_Disk_afterCut_l3 kept torn bytes t18 t19 (wi64 (t20 + 1)) t8_Fuse t8_Off out_Fuse out_Off t8_Blocks t8_Pending (out_Blocks.set x1.1.toNat ((x1.2.extract 0 bytes.toNat) ++ (x2.extract bytes.toNat x2.size))) out_Pending) (none)) (none)) (none)) (none)) (none)) <|
        sbind (idx kept t20) fun x2 =>
        sif (x2)
         (sif (le3 0 64 (x1.2.size : Int))
           (sif (lt3 0 x1.1 (out_Blocks.length : Int))
             (sbind (out_Blocks[x1.1.toNat]?) fun x3 =>
              sif (le3 0 64 (x3.size : Int))
               (sif (joins (x1.2.extract 0 64) (x3.extract 64 x3.size))
                 (sif (lt3 0 x1.1 (out_Blocks.length : Int))
                   (impl_Disk_afterCut_l3 kept torn bytes t18 t19 (wi64 (t20 + 1)) t8_Fuse t8_Off out_Fuse out_Off t8_Blocks t8_Pending (out_Blocks.set x1.1.toNat ((x1.2.extract 0 64) ++ (x3.extract 64 x3.size))) out_Pending) (none)) (none)) (none)) (none)) (none)) <|
        sif (le3 0 0 (x1.2.size : Int))
         (sif (lt3 0 x1.1 (out_Blocks.length : Int))
           (sbind (out_Blocks[x1.1.toNat]?) fun x3 =>
            sif (le3 0 0 (x3.size : Int))
             (sif (joins (x1.2.extract 0 0) (x3.extract 0 x3.size))
               (sif (lt3 0 x1.1 (out_Blocks.length : Int))
                 (impl_Disk_afterCut_l3 kept torn bytes t18 t19 (wi64 (t20 + 1)) t8_Fuse t8_Off out_Fuse out_Off t8_Blocks t8_Pending (out_Blocks.set x1.1.toNat ((x1.2.extract 0 0) ++ (x3.extract 0 x3.size))) out_Pending) (none)) (none)) (none)) (none)) (none)) (some (out_Fuse, out_Off, out_Blocks, out_Pending))) := seml_eq (f := 79) (m := 0) (l := 3) (by kernel_rfl)
theorem slices_Clone_sstring_string_eq (s : List ByteArray) :
    slices_Clone_sstring_string s = (
      sif (s.isEmpty) (sboth (some ([] : List ByteArray)) (sif (room (0 + s.length) 16) (some s) (none))) (sif (room (0 + s.length) 16) (some s) (none))) := sem_eq (f := 72) (m := 0) rfl (by kernel_rfl)
theorem laws_eqDisk_eq (a_Blocks : List ByteArray) (a_Pending : List (Int × ByteArray)) (a_Fuse : Int) (a_Off : Bool) (b_Blocks : List ByteArray) (b_Pending : List (Int × ByteArray)) (b_Fuse : Int) (b_Off : Bool) :
    laws_eqDisk a_Blocks a_Pending a_Fuse a_Off b_Blocks b_Pending b_Fuse b_Off = (
      sbind (laws_eqStringS a_Blocks b_Blocks) fun r1 =>
      sif (!r1) (some false) <|
      sbind (laws_eqPutS a_Pending b_Pending) fun r2 =>
      sif (!r2) (some false) <|
      sif ((a_Fuse != b_Fuse)) (some false) (sif (!(a_Off == b_Off)) (some false) (some true))) := sem_eq (f := 10) (m := 0) rfl (by kernel_rfl)
theorem laws_eqStringS_eq (a : List ByteArray) (b : List ByteArray) :
    laws_eqStringS a b = (
      sif (((a.length : Int) != (b.length : Int))) (some false) (laws_eqStringS_l4 a b 0)) := sem_eq (f := 40) (m := 0) rfl (by kernel_rfl)
theorem laws_eqStringS_l4_eq (a : List ByteArray) (b : List ByteArray) (i : Int) :
    laws_eqStringS_l4 a b i = (
      sif (decide (i < (a.length : Int)))
       (sbind (idx a i) fun x1 =>
        sbind (idx b i) fun x2 =>
        sif (!seq x1 x2) (some false) (laws_eqStringS_l4 a b (wi64 (i + 1)))) (some true)) := seml_eq (f := 40) (m := 0) (l := 4) (by kernel_rfl)
theorem laws_eqPutS_eq (a : List (Int × ByteArray)) (b : List (Int × ByteArray)) :
    laws_eqPutS a b = (
      sif (((a.length : Int) != (b.length : Int))) (some false) (laws_eqPutS_l4 a b 0)) := sem_eq (f := 41) (m := 0) rfl (by kernel_rfl)
theorem laws_eqPutS_l4_eq (a : List (Int × ByteArray)) (b : List (Int × ByteArray)) (i : Int) :
    laws_eqPutS_l4 a b i = (
      sif (decide (i < (a.length : Int)))
       (sbind (idx a i) fun x1 =>
        sbind (idx b i) fun x2 =>
        sbind (laws_eqPut x1.1 x1.2 x2.1 x2.2) fun r3 =>
        sif (!r3) (some false) (laws_eqPutS_l4 a b (wi64 (i + 1)))) (some true)) := seml_eq (f := 41) (m := 0) (l := 4) (by kernel_rfl)
theorem laws_eqPut_eq (a_Block : Int) (a_Data : ByteArray) (b_Block : Int) (b_Data : ByteArray) :
    laws_eqPut a_Block a_Data b_Block b_Data = (
      sif ((a_Block != b_Block)) (some false) (sif (!seq a_Data b_Data) (some false) (some true))) := sem_eq (f := 75) (m := 0) rfl (by kernel_rfl)
theorem laws_markDisk_vv_eq (a_Fuse : Int) (a_Off : Bool) (k : Int) (a_Blocks : List ByteArray) (a_Pending : List (Int × ByteArray)) :
    laws_markDisk_vv a_Fuse a_Off k a_Blocks a_Pending = (
      sbind (laws_markStringS_v k a_Blocks) fun r1 =>
      sbind (laws_markPutS_v r1.1 a_Pending) fun r2 =>
      some (r2.1, r1.2, r2.2)) := sem_eq (f := 11) (m := 0) rfl (by kernel_rfl)
theorem laws_markStringS_v_eq (k : Int) (a : List ByteArray) :
    laws_markStringS_v k a = (
      laws_markStringS_v_l2 k 0 a) := sem_eq (f := 42) (m := 0) rfl (by kernel_rfl)
theorem laws_markStringS_v_l2_eq (k : Int) (i : Int) (a : List ByteArray) :
    laws_markStringS_v_l2 k i a = (
      sif (decide (i < (a.length : Int)))
       (sbind (laws_markText k) fun r1 =>
        sif (lt3 0 i (a.length : Int)) (laws_markStringS_v_l2 (wi64 (k + 1)) (wi64 (i + 1)) (a.set i.toNat r1)) (none)) (some (k, a))) := seml_eq (f := 42) (m := 0) (l := 2) (by kernel_rfl)
theorem laws_markText_eq (k : Int) :
    laws_markText k = (
      sif (decide (k ≤ 0)) (some (bs [109, 48])) (laws_markText_l4 k (bs []))) := sem_eq (f := 76) (m := 0) rfl (by kernel_rfl)
theorem laws_markText_l4_eq (k : Int) (out : ByteArray) :
    laws_markText_l4 k out = (
      sif (decide (k > 0))
       (sif (joins (toB [wu8 (wi64 (48 + (Int.tmod k 10)))]) out)
         (laws_markText_l4 (wi64 (Int.tdiv k 10)) ((toB [wu8 (wi64 (48 + (Int.tmod k 10)))]) ++ out)) (none)) <|
      sif (joins (bs [109]) out) (some ((bs [109]) ++ out)) (none)) := seml_eq (f := 76) (m := 0) (l := 4) (by kernel_rfl)
theorem laws_markPutS_v_eq (k : Int) (a : List (Int × ByteArray)) :
    laws_markPutS_v k a = (
      laws_markPutS_v_l2 k 0 a) := sem_eq (f := 43) (m := 0) rfl (by kernel_rfl)
theorem laws_markPutS_v_l2_eq (k : Int) (i : Int) (a : List (Int × ByteArray)) :
    laws_markPutS_v_l2 k i a = (
      sif (decide (i < (a.length : Int)))
       (sif (lt3 0 i (a.length : Int))
         (sbind (a[i.toNat]?) fun x1 =>
          sbind (laws_markText (wi64 (k + 1))) fun r2 =>
          sif (lt3 0 i ((a.set i.toNat (k, x1.2)).length : Int))
           (sbind ((a.set i.toNat (k, x1.2))[i.toNat]?) fun x3 =>
            laws_markPutS_v_l2 (wi64 ((wi64 (k + 1)) + 1)) (wi64 (i + 1)) ((a.set i.toNat (k, x1.2)).set i.toNat (x3.1, r2))) (none)) (none)) (some (k, a))) := seml_eq (f := 43) (m := 0) (l := 2) (by kernel_rfl)
theorem laws_heldDisk_eq (a_Blocks : List ByteArray) (a_Pending : List (Int × ByteArray)) (a_Fuse : Int) (a_Off : Bool) (k : Int) :
    laws_heldDisk a_Blocks a_Pending a_Fuse a_Off k = (
      sbind (laws_heldStringS a_Blocks k) fun r1 =>
      sif (decide (r1 < 0)) (some (-1)) <|
      sbind (laws_heldPutS a_Pending r1) fun r2 =>
      sif (decide (r2 < 0)) (some (-1)) (some r2)) := sem_eq (f := 12) (m := 0) rfl (by kernel_rfl)
theorem laws_heldStringS_eq (a : List ByteArray) (k : Int) :
    laws_heldStringS a k = (
      laws_heldStringS_l2 a k 0) := sem_eq (f := 44) (m := 0) rfl (by kernel_rfl)
theorem laws_heldStringS_l2_eq (a : List ByteArray) (k : Int) (i : Int) :
    laws_heldStringS_l2 a k i = (
      sif (decide (i < (a.length : Int)))
       (sbind (idx a i) fun x1 =>
        sbind (laws_markText k) fun r2 =>
        sif (!seq x1 r2) (some (-1)) <|
        laws_heldStringS_l2 a (wi64 (k + 1)) (wi64 (i + 1))) (some k)) := seml_eq (f := 44) (m := 0) (l := 2) (by kernel_rfl)
theorem laws_heldPutS_eq (a : List (Int × ByteArray)) (k : Int) :
    laws_heldPutS a k = (
      laws_heldPutS_l2 a k 0) := sem_eq (f := 45) (m := 0) rfl (by kernel_rfl)
theorem laws_heldPutS_l2_eq (a : List (Int × ByteArray)) (k : Int) (i : Int) :
    laws_heldPutS_l2 a k i = (
      sif (decide (i < (a.length : Int)))
       (sbind (idx a i) fun x1 =>
        sif ((x1.1 != k)) (some (-1)) <|
        sbind (idx a i) fun x2 =>
        sbind (laws_markText (wi64 (k + 1))) fun r3 =>
        sif (!seq x2.2 r3) (some (-1)) <|
        laws_heldPutS_l2 a (wi64 ((wi64 (k + 1)) + 1)) (wi64 (i + 1))) (some k)) := seml_eq (f := 45) (m := 0) (l := 2) (by kernel_rfl)
end Go.Ve.X
