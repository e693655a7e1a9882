/- The equations of the functions that 'FnExactRootOf' reaches (printed by plan.py): what each answers. No condition. -/
import Derived.Test.YtbjjgoffcpdicaaEnvFnExactRootOf
namespace Go.Ve.X
open Go.Proofs Go.Ve Go.RowKit
set_option linter.unusedVariables false
set_option maxRecDepth 100000
theorem laws_FnExactRootOf_eq (aP_Disk_Blocks : List ByteArray) (aP_Disk_Pending : List (Int × ByteArray)) (aP_Disk_Fuse : Int) (aP_Disk_Off : Bool) (aP_Super_Blocks : Int) (aP_Super_Log : Int) (aP_Super_Seq : Int) (aP_Super_Turn : Int) (aP_Seq : Int) (aP_At : Int) (aP_Logged : List (Int × ByteArray)) (aP_Dirty : List (Int × ByteArray)) :
    laws_FnExactRootOf aP_Disk_Blocks aP_Disk_Pending aP_Disk_Fuse aP_Disk_Off aP_Super_Blocks aP_Super_Log aP_Super_Seq aP_Super_Turn aP_Seq aP_At aP_Logged aP_Dirty = (
      sbind (laws_szPager aP_Disk_Blocks aP_Disk_Pending aP_Disk_Fuse aP_Disk_Off aP_Super_Blocks aP_Super_Log aP_Super_Seq aP_Super_Turn aP_Seq aP_At aP_Logged aP_Dirty 1048576) fun r1 =>
      sif (decide (r1 < 0)) (some true) <|
      sbind (laws_toPager aP_Disk_Blocks aP_Disk_Pending aP_Disk_Fuse aP_Disk_Off aP_Super_Blocks aP_Super_Log aP_Super_Seq aP_Super_Turn aP_Seq aP_At aP_Logged aP_Dirty) fun r2 =>
      sbind (spec_RootOf r2.2.2.2.2.2.2.2.2.1 r2.2.2.2.2.2.2.2.2.2.1 r2.1 r2.2.1 r2.2.2.1 r2.2.2.2.1 r2.2.2.2.2.1 r2.2.2.2.2.2.1 r2.2.2.2.2.2.2.1 r2.2.2.2.2.2.2.2.1 r2.2.2.2.2.2.2.2.2.2.2.1 r2.2.2.2.2.2.2.2.2.2.2.2) fun r3 =>
      sbind (laws_toPager aP_Disk_Blocks aP_Disk_Pending aP_Disk_Fuse aP_Disk_Off aP_Super_Blocks aP_Super_Log aP_Super_Seq aP_Super_Turn aP_Seq aP_At aP_Logged aP_Dirty) fun r4 =>
      sbind (impl_RootOf r4.2.2.2.2.2.2.2.2.1 r4.2.2.2.2.2.2.2.2.2.1 r4.1 r4.2.1 r4.2.2.1 r4.2.2.2.1 r4.2.2.2.2.1 r4.2.2.2.2.2.1 r4.2.2.2.2.2.2.1 r4.2.2.2.2.2.2.2.1 r4.2.2.2.2.2.2.2.2.2.2.1 r4.2.2.2.2.2.2.2.2.2.2.2) fun r5 =>
      sif ((r5.1 != r3.1)) (some false) <|
      sif ((r5.2 != r3.2)) (some false) <|
      sbind (laws_toPager aP_Disk_Blocks aP_Disk_Pending aP_Disk_Fuse aP_Disk_Off aP_Super_Blocks aP_Super_Log aP_Super_Seq aP_Super_Turn aP_Seq aP_At aP_Logged aP_Dirty) fun r6 =>
      sbind (laws_eqPager r4.2.2.2.2.2.2.2.2.1 r4.2.2.2.2.2.2.2.2.2.1 r4.1 r4.2.1 r4.2.2.1 r4.2.2.2.1 r4.2.2.2.2.1 r4.2.2.2.2.2.1 r4.2.2.2.2.2.2.1 r4.2.2.2.2.2.2.2.1 r4.2.2.2.2.2.2.2.2.2.2.1 r4.2.2.2.2.2.2.2.2.2.2.2 r6.2.2.2.2.2.2.2.2.1 r6.2.2.2.2.2.2.2.2.2.1 r6.1 r6.2.1 r6.2.2.1 r6.2.2.2.1 r6.2.2.2.2.1 r6.2.2.2.2.2.1 r6.2.2.2.2.2.2.1 r6.2.2.2.2.2.2.2.1 r6.2.2.2.2.2.2.2.2.2.2.1 r6.2.2.2.2.2.2.2.2.2.2.2) fun r7 =>
      sif (!r7) (some false) (some true)) := sem_eq (f := 5) (m := 0) rfl (by kernel_rfl)
theorem laws_szPager_eq (a_Disk_Blocks : List ByteArray) (a_Disk_Pending : List (Int × ByteArray)) (a_Disk_Fuse : Int) (a_Disk_Off : Bool) (a_Super_Blocks : Int) (a_Super_Log : Int) (a_Super_Seq : Int) (a_Super_Turn : Int) (a_Seq : Int) (a_At : Int) (a_Logged : List (Int × ByteArray)) (a_Dirty : List (Int × ByteArray)) (left : Int) :
    laws_szPager a_Disk_Blocks a_Disk_Pending a_Disk_Fuse a_Disk_Off a_Super_Blocks a_Super_Log a_Super_Seq a_Super_Turn a_Seq a_At a_Logged a_Dirty left = (
      sbind (laws_szDisk a_Disk_Blocks a_Disk_Pending a_Disk_Fuse a_Disk_Off left) fun r1 =>
      sif (decide (r1 < 0)) (some (-1)) <|
      sbind (laws_szPageS a_Logged r1) fun r2 =>
      sif (decide (r2 < 0)) (some (-1)) <|
      sbind (laws_szPageS a_Dirty r2) fun r3 =>
      sif (decide (r3 < 0)) (some (-1)) (some r3)) := sem_eq (f := 6) (m := 0) rfl (by kernel_rfl)
theorem laws_szDisk_eq (a_Blocks : List ByteArray) (a_Pending : List (Int × ByteArray)) (a_Fuse : Int) (a_Off : Bool) (left : Int) :
    laws_szDisk a_Blocks a_Pending a_Fuse a_Off left = (
      sbind (laws_szStringS a_Blocks left) fun r1 =>
      sif (decide (r1 < 0)) (some (-1)) <|
      sbind (laws_szPutS a_Pending r1) fun r2 =>
      sif (decide (r2 < 0)) (some (-1)) (some r2)) := sem_eq (f := 15) (m := 0) rfl (by kernel_rfl)
theorem laws_szStringS_eq (a : List ByteArray) (left : Int) :
    laws_szStringS a left = (
      sif (decide (wi64 (left - (a.length : Int)) < 0)) (some (-1)) <|
      laws_szStringS_l5 a (wi64 (left - (a.length : Int))) 0) := sem_eq (f := 35) (m := 0) rfl (by kernel_rfl)
theorem laws_szStringS_l5_eq (a : List ByteArray) (left : Int) (i : Int) :
    laws_szStringS_l5 a left i = (
      sif (decide (i < (a.length : Int)))
       (sbind (idx a i) fun x1 =>
        sif (decide (wi64 (left - (x1.size : Int)) < 0)) (some (-1)) <|
        laws_szStringS_l5 a (wi64 (left - (x1.size : Int))) (wi64 (i + 1))) (some left)) := seml_eq (f := 35) (m := 0) (l := 5) (by kernel_rfl)
theorem laws_szPutS_eq (a : List (Int × ByteArray)) (left : Int) :
    laws_szPutS a left = (
      sif (decide (wi64 (left - (a.length : Int)) < 0)) (some (-1)) (laws_szPutS_l5 a (wi64 (left - (a.length : Int))) 0)) := sem_eq (f := 36) (m := 0) rfl (by kernel_rfl)
theorem laws_szPutS_l5_eq (a : List (Int × ByteArray)) (left : Int) (i : Int) :
    laws_szPutS_l5 a left i = (
      sif (decide (i < (a.length : Int)))
       (sbind (idx a i) fun x1 =>
        sbind (laws_szPut x1.1 x1.2 left) fun r2 =>
        sif (decide (r2 < 0)) (some (-1)) (laws_szPutS_l5 a r2 (wi64 (i + 1)))) (some left)) := seml_eq (f := 36) (m := 0) (l := 5) (by kernel_rfl)
theorem laws_szPut_eq (a_Block : Int) (a_Data : ByteArray) (left : Int) :
    laws_szPut a_Block a_Data left = (
      sif (decide (wi64 (left - (a_Data.size : Int)) < 0)) (some (-1)) (some (wi64 (left - (a_Data.size : Int))))) := sem_eq (f := 65) (m := 0) rfl (by kernel_rfl)
theorem laws_szPageS_eq (a : List (Int × ByteArray)) (left : Int) :
    laws_szPageS a left = (
      sif (decide (wi64 (left - (a.length : Int)) < 0)) (some (-1)) <|
      laws_szPageS_l5 a (wi64 (left - (a.length : Int))) 0) := sem_eq (f := 16) (m := 0) rfl (by kernel_rfl)
theorem laws_szPageS_l5_eq (a : List (Int × ByteArray)) (left : Int) (i : Int) :
    laws_szPageS_l5 a left i = (
      sif (decide (i < (a.length : Int)))
       (sbind (idx a i) fun x1 =>
        sbind (laws_szPage x1.1 x1.2 left) fun r2 =>
        sif (decide (r2 < 0)) (some (-1)) (laws_szPageS_l5 a r2 (wi64 (i + 1)))) (some left)) := seml_eq (f := 16) (m := 0) (l := 5) (by kernel_rfl)
theorem laws_szPage_eq (a_Block : Int) (a_Data : ByteArray) (left : Int) :
    laws_szPage a_Block a_Data left = (
      sif (decide (wi64 (left - (a_Data.size : Int)) < 0)) (some (-1)) (some (wi64 (left - (a_Data.size : Int))))) := sem_eq (f := 37) (m := 0) rfl (by kernel_rfl)
theorem laws_toPager_eq (a_Disk_Blocks : List ByteArray) (a_Disk_Pending : List (Int × ByteArray)) (a_Disk_Fuse : Int) (a_Disk_Off : Bool) (a_Super_Blocks : Int) (a_Super_Log : Int) (a_Super_Seq : Int) (a_Super_Turn : Int) (a_Seq : Int) (a_At : Int) (a_Logged : List (Int × ByteArray)) (a_Dirty : List (Int × ByteArray)) :
    laws_toPager a_Disk_Blocks a_Disk_Pending a_Disk_Fuse a_Disk_Off a_Super_Blocks a_Super_Log a_Super_Seq a_Super_Turn a_Seq a_At a_Logged a_Dirty = (
      sbind (laws_toDisk a_Disk_Blocks a_Disk_Pending a_Disk_Fuse a_Disk_Off) fun r1 =>
      sbind (laws_toSuper a_Super_Blocks a_Super_Log a_Super_Seq a_Super_Turn) fun r2 =>
      sbind (laws_toPageS a_Logged) fun r3 =>
      sbind (laws_toPageS a_Dirty) fun r4 =>
      some (r1.1, r1.2.1, r2.1, r2.2.1, r2.2.2.1, r2.2.2.2, a_Seq, a_At, r1.2.2.1, r1.2.2.2, r3, r4)) := sem_eq (f := 8) (m := 0) rfl (by kernel_rfl)
theorem laws_toDisk_eq (a_Blocks : List ByteArray) (a_Pending : List (Int × ByteArray)) (a_Fuse : Int) (a_Off : Bool) :
    laws_toDisk a_Blocks a_Pending a_Fuse a_Off = (
      sbind (laws_toStringS a_Blocks) fun r1 =>
      sbind (laws_toPutS a_Pending) fun r2 =>
      some (a_Fuse, a_Off, r1, r2)) := sem_eq (f := 20) (m := 0) rfl (by kernel_rfl)
theorem laws_toStringS_eq (a : List ByteArray) :
    laws_toStringS a = (
      sif (le3 0 (a.length : Int) (a.length : Int) && room a.length 16) (laws_toStringS_l3 a 0 (List.replicate a.length (bs [] : ByteArray))) (none)) := sem_eq (f := 47) (m := 0) rfl (by kernel_rfl)
theorem laws_toStringS_l3_eq (a : List ByteArray) (i : Int) (out : List ByteArray) :
    laws_toStringS_l3 a i out = (
      sif (decide (i < (a.length : Int)))
       (sbind (idx a i) fun x1 =>
        sif (lt3 0 i (out.length : Int)) (laws_toStringS_l3 a (wi64 (i + 1)) (out.set i.toNat x1)) (none)) (some out)) := seml_eq (f := 47) (m := 0) (l := 3) (by kernel_rfl)
theorem laws_toPutS_eq (a : List (Int × ByteArray)) :
    laws_toPutS a = (
      sif (le3 0 (a.length : Int) (a.length : Int) && room a.length 24) (laws_toPutS_l3 a 0 (List.replicate a.length ((0, bs []) : Int × ByteArray))) (none)) := sem_eq (f := 48) (m := 0) rfl (by kernel_rfl)
theorem laws_toPutS_l3_eq (a : List (Int × ByteArray)) (i : Int) (out : List (Int × ByteArray)) :
    laws_toPutS_l3 a i out = (
      sif (decide (i < (a.length : Int)))
       (sbind (idx a i) fun x1 =>
        sbind (laws_toPut x1.1 x1.2) fun r2 =>
        sif (lt3 0 i (out.length : Int)) (laws_toPutS_l3 a (wi64 (i + 1)) (out.set i.toNat (r2.1, r2.2))) (none)) (some out)) := seml_eq (f := 48) (m := 0) (l := 3) (by kernel_rfl)
theorem laws_toPut_eq (a_Block : Int) (a_Data : ByteArray) :
    laws_toPut a_Block a_Data = (
      some (a_Block, a_Data)) := sem_eq (f := 67) (m := 0) rfl (by kernel_rfl)
theorem laws_toSuper_eq (a_Blocks : Int) (a_Log : Int) (a_Seq : Int) (a_Turn : Int) :
    laws_toSuper a_Blocks a_Log a_Seq a_Turn = (
      some (a_Blocks, a_Log, a_Seq, a_Turn)) := sem_eq (f := 21) (m := 0) rfl (by kernel_rfl)
theorem laws_toPageS_eq (a : List (Int × ByteArray)) :
    laws_toPageS a = (
      sif (le3 0 (a.length : Int) (a.length : Int) && room a.length 24) (laws_toPageS_l3 a 0 (List.replicate a.length ((0, bs []) : Int × ByteArray))) (none)) := sem_eq (f := 22) (m := 0) rfl (by kernel_rfl)
theorem laws_toPageS_l3_eq (a : List (Int × ByteArray)) (i : Int) (out : List (Int × ByteArray)) :
    laws_toPageS_l3 a i out = (
      sif (decide (i < (a.length : Int)))
       (sbind (idx a i) fun x1 =>
        sbind (laws_toPage x1.1 x1.2) fun r2 =>
        sif (lt3 0 i (out.length : Int)) (laws_toPageS_l3 a (wi64 (i + 1)) (out.set i.toNat (r2.1, r2.2))) (none)) (some out)) := seml_eq (f := 22) (m := 0) (l := 3) (by kernel_rfl)
theorem laws_toPage_eq (a_Block : Int) (a_Data : ByteArray) :
    laws_toPage a_Block a_Data = (
      some (a_Block, a_Data)) := sem_eq (f := 49) (m := 0) rfl (by kernel_rfl)
theorem spec_RootOf_eq (p_Disk_Blocks : List ByteArray) (p_Disk_Pending : List (Int × ByteArray)) (p_Disk_Fuse : Int) (p_Disk_Off : Bool) (p_Super_Blocks : Int) (p_Super_Log : Int) (p_Super_Seq : Int) (p_Super_Turn : Int) (p_Seq : Int) (p_At : Int) (p_Logged : List (Int × ByteArray)) (p_Dirty : List (Int × ByteArray)) :
    spec_RootOf p_Disk_Blocks p_Disk_Pending p_Disk_Fuse p_Disk_Off p_Super_Blocks p_Super_Log p_Super_Seq p_Super_Turn p_Seq p_At p_Logged p_Dirty = (
      sbind (spec_l12Ok p_Disk_Blocks p_Disk_Pending p_Disk_Fuse p_Disk_Off p_Super_Blocks p_Super_Log p_Super_Seq p_Super_Turn p_Seq p_At p_Logged p_Dirty) fun r1 =>
      sif (!r1) (some (0, 1)) <|
      sbind (spec_l13Root p_Disk_Blocks p_Disk_Pending p_Disk_Fuse p_Disk_Off p_Super_Blocks p_Super_Log p_Super_Seq p_Super_Turn p_Seq p_At p_Logged p_Dirty) fun r2 =>
      some (r2, 0)) := sem_eq (f := 13) (m := 0) rfl (by kernel_rfl)
theorem spec_l12Ok_eq (p_Disk_Blocks : List ByteArray) (p_Disk_Pending : List (Int × ByteArray)) (p_Disk_Fuse : Int) (p_Disk_Off : Bool) (p_Super_Blocks : Int) (p_Super_Log : Int) (p_Super_Seq : Int) (p_Super_Turn : Int) (p_Seq : Int) (p_At : Int) (p_Logged : List (Int × ByteArray)) (p_Dirty : List (Int × ByteArray)) :
    spec_l12Ok p_Disk_Blocks p_Disk_Pending p_Disk_Fuse p_Disk_Off p_Super_Blocks p_Super_Log p_Super_Seq p_Super_Turn p_Seq p_At p_Logged p_Dirty = (
      sbind (spec_l09Ok p_Disk_Blocks p_Disk_Pending p_Disk_Fuse p_Disk_Off p_Super_Blocks p_Super_Log p_Super_Seq p_Super_Turn p_Seq p_At p_Logged p_Dirty) fun r1 =>
      sif (!r1) (some false) <|
      sif (decide ((p_Disk_Pending.length : Int) > 1))
       (sif (!p_Disk_Off) (some false) <|
        sbind (spec_ValidSuper p_Super_Blocks p_Super_Log p_Super_Seq p_Super_Turn) fun r2 =>
        sif (!r2) (some false) <|
        sif ((p_Super_Blocks != (p_Disk_Blocks.length : Int))) (some false) <|
        sbind (spec_l00In p_Seq p_Super_Seq 1000000000000) fun r3 =>
        sif (!r3) (some false) <|
        sbind (spec_l00In p_At 0 p_Super_Log) fun r4 =>
        sif (!r4) (some false) <|
        sbind (spec_l11Pages p_Logged) fun r5 =>
        sif (!r5) (some false) <|
        sbind (spec_l11Pages p_Dirty) fun r6 =>
        sif (!r6) (some false) <|
        sbind (spec_l11Within p_Super_Blocks p_Super_Log p_Super_Seq p_Super_Turn p_Logged) fun r7 =>
        sif (!r7) (some false) <|
        sbind (spec_l11Within p_Super_Blocks p_Super_Log p_Super_Seq p_Super_Turn p_Dirty) fun r8 =>
        sif (!r8) (some false) <|
        sbind (spec_l12Fits p_Super_Blocks p_Super_Log p_Super_Seq p_Super_Turn (p_Dirty.length : Int)) fun r9 =>
        some r9) <|
      sbind (spec_ValidSuper p_Super_Blocks p_Super_Log p_Super_Seq p_Super_Turn) fun r2 =>
      sif (!r2) (some false) <|
      sif ((p_Super_Blocks != (p_Disk_Blocks.length : Int))) (some false) <|
      sbind (spec_l00In p_Seq p_Super_Seq 1000000000000) fun r3 =>
      sif (!r3) (some false) <|
      sbind (spec_l00In p_At 0 p_Super_Log) fun r4 =>
      sif (!r4) (some false) <|
      sbind (spec_l11Pages p_Logged) fun r5 =>
      sif (!r5) (some false) <|
      sbind (spec_l11Pages p_Dirty) fun r6 =>
      sif (!r6) (some false) <|
      sbind (spec_l11Within p_Super_Blocks p_Super_Log p_Super_Seq p_Super_Turn p_Logged) fun r7 =>
      sif (!r7) (some false) <|
      sbind (spec_l11Within p_Super_Blocks p_Super_Log p_Super_Seq p_Super_Turn p_Dirty) fun r8 =>
      sif (!r8) (some false) <|
      sbind (spec_l12Fits p_Super_Blocks p_Super_Log p_Super_Seq p_Super_Turn (p_Dirty.length : Int)) fun r9 =>
      some r9) := sem_eq (f := 17) (m := 0) rfl (by kernel_rfl)
theorem spec_l09Ok_eq (d_Disk_Blocks : List ByteArray) (d_Disk_Pending : List (Int × ByteArray)) (d_Disk_Fuse : Int) (d_Disk_Off : Bool) (d_Super_Blocks : Int) (d_Super_Log : Int) (d_Super_Seq : Int) (d_Super_Turn : Int) (d_Seq : Int) (d_At : Int) (d_Logged : List (Int × ByteArray)) (d_Dirty : List (Int × ByteArray)) :
    spec_l09Ok d_Disk_Blocks d_Disk_Pending d_Disk_Fuse d_Disk_Off d_Super_Blocks d_Super_Log d_Super_Seq d_Super_Turn d_Seq d_At d_Logged d_Dirty = (
      sbind (spec_l00In (d_Disk_Blocks.length : Int) 16 256) fun r1 =>
      sif (!r1) (some false) <|
      sif (decide ((d_Disk_Pending.length : Int) > 600)) (some false) <|
      sbind (spec_l00In d_Disk_Fuse (-1) 100000) fun r2 =>
      sif (!r2) (some false) <|
      spec_l09Ok_l5 (d_Disk_Blocks.length : Int) 0 d_Disk_Blocks d_Disk_Pending d_Disk_Fuse d_Disk_Off d_Super_Blocks d_Super_Log d_Super_Seq d_Super_Turn d_Seq d_At d_Logged d_Dirty) := sem_eq (f := 38) (m := 0) rfl (by kernel_rfl)
theorem spec_l09Ok_l5_eq (n : Int) (i : Int) (d_Disk_Blocks : List ByteArray) (d_Disk_Pending : List (Int × ByteArray)) (d_Disk_Fuse : Int) (d_Disk_Off : Bool) (d_Super_Blocks : Int) (d_Super_Log : Int) (d_Super_Seq : Int) (d_Super_Turn : Int) (d_Seq : Int) (d_At : Int) (d_Logged : List (Int × ByteArray)) (d_Dirty : List (Int × ByteArray)) :
    spec_l09Ok_l5 n i d_Disk_Blocks d_Disk_Pending d_Disk_Fuse d_Disk_Off d_Super_Blocks d_Super_Log d_Super_Seq d_Super_Turn d_Seq d_At d_Logged d_Dirty = (
      sif (decide (i < (d_Disk_Blocks.length : Int)))
       (sbind (idx d_Disk_Blocks i) fun x1 =>
        sif (((x1.size : Int) != 64)) (some false) <|
        spec_l09Ok_l5 n (wi64 (i + 1)) d_Disk_Blocks d_Disk_Pending d_Disk_Fuse d_Disk_Off d_Super_Blocks d_Super_Log d_Super_Seq d_Super_Turn d_Seq d_At d_Logged d_Dirty) <|
      spec_l09Ok_l10 n 0 d_Disk_Blocks d_Disk_Pending d_Disk_Fuse d_Disk_Off d_Super_Blocks d_Super_Log d_Super_Seq d_Super_Turn d_Seq d_At d_Logged d_Dirty) := seml_eq (f := 38) (m := 0) (l := 5) (by kernel_rfl)
theorem spec_l09Ok_l10_eq (n : Int) (i : Int) (d_Disk_Blocks : List ByteArray) (d_Disk_Pending : List (Int × ByteArray)) (d_Disk_Fuse : Int) (d_Disk_Off : Bool) (d_Super_Blocks : Int) (d_Super_Log : Int) (d_Super_Seq : Int) (d_Super_Turn : Int) (d_Seq : Int) (d_At : Int) (d_Logged : List (Int × ByteArray)) (d_Dirty : List (Int × ByteArray)) :
    spec_l09Ok_l10 n i d_Disk_Blocks d_Disk_Pending d_Disk_Fuse d_Disk_Off d_Super_Blocks d_Super_Log d_Super_Seq d_Super_Turn d_Seq d_At d_Logged d_Dirty = (
      sif (decide (i < (d_Disk_Pending.length : Int)))
       (sbind (idx d_Disk_Pending i) fun x1 =>
        sbind (spec_l00In x1.1 0 (wi64 (n - 1))) fun r2 =>
        sif (!r2) (some false) <|
        sbind (idx d_Disk_Pending i) fun x3 =>
        sif (((x3.2.size : Int) != 64)) (some false) <|
        spec_l09Ok_l10 n (wi64 (i + 1)) d_Disk_Blocks d_Disk_Pending d_Disk_Fuse d_Disk_Off d_Super_Blocks d_Super_Log d_Super_Seq d_Super_Turn d_Seq d_At d_Logged d_Dirty) (some true)) := seml_eq (f := 38) (m := 0) (l := 10) (by kernel_rfl)
theorem spec_l00In_eq (n : Int) (low : Int) (high : Int) :
    spec_l00In n low high = (
      sif (decide (n ≥ low)) (some (decide (n ≤ high))) (some false)) := sem_eq (f := 40) (m := 0) rfl (by kernel_rfl)
theorem spec_ValidSuper_eq (s_Blocks : Int) (s_Log : Int) (s_Seq : Int) (s_Turn : Int) :
    spec_ValidSuper s_Blocks s_Log s_Seq s_Turn = (
      sbind (spec_l00In s_Blocks 16 256) fun r1 =>
      sif (r1)
       (sbind (spec_l00In s_Log 8 64) fun r2 =>
        sif (r2)
         (sif (decide (s_Log ≤ wi64 (s_Blocks - 4)))
           (sbind (spec_l00In s_Seq 0 1000000000000) fun r3 =>
            sif (r3)
             (sbind (spec_l00In s_Turn 0 1000000000000) fun r4 =>
              some r4) (some false)) (some false)) (some false)) (some false)) := sem_eq (f := 39) (m := 0) rfl (by kernel_rfl)
theorem spec_l11Pages_eq (list : List (Int × ByteArray)) :
    spec_l11Pages list = (
      sif (decide ((list.length : Int) > 256)) (some false) (spec_l11Pages_l4 list 0)) := sem_eq (f := 41) (m := 0) rfl (by kernel_rfl)
theorem spec_l11Pages_l4_eq (list : List (Int × ByteArray)) (i : Int) :
    spec_l11Pages_l4 list i = (
      sif (decide (i < (list.length : Int)))
       (sbind (idx list i) fun x1 =>
        sbind (spec_l00In x1.1 0 255) fun r2 =>
        sif (!r2) (some false) <|
        sbind (idx list i) fun x3 =>
        sif (((x3.2.size : Int) != 64)) (some false) <|
        sif (decide (i > 0))
         (sbind (idx list (wi64 (i - 1))) fun x4 =>
          sbind (idx list i) fun x5 =>
          sif (decide (x4.1 ≥ x5.1)) (some false) (spec_l11Pages_l4 list (wi64 (i + 1)))) (spec_l11Pages_l4 list (wi64 (i + 1)))) (some true)) := seml_eq (f := 41) (m := 0) (l := 4) (by kernel_rfl)
theorem spec_l11Within_eq (s_Blocks : Int) (s_Log : Int) (s_Seq : Int) (s_Turn : Int) (list : List (Int × ByteArray)) :
    spec_l11Within s_Blocks s_Log s_Seq s_Turn list = (
      spec_l11Within_l2 list 0 s_Blocks s_Log s_Seq s_Turn) := sem_eq (f := 42) (m := 0) rfl (by kernel_rfl)
theorem spec_l11Within_l2_eq (list : List (Int × ByteArray)) (i : Int) (s_Blocks : Int) (s_Log : Int) (s_Seq : Int) (s_Turn : Int) :
    spec_l11Within_l2 list i s_Blocks s_Log s_Seq s_Turn = (
      sif (decide (i < (list.length : Int)))
       (sbind (idx list i) fun x1 =>
        sbind (spec_l10Area s_Blocks s_Log s_Seq s_Turn) fun r2 =>
        sbind (spec_l00In x1.1 r2 (wi64 (s_Blocks - 1))) fun r3 =>
        sif (!r3) (some false) <|
        spec_l11Within_l2 list (wi64 (i + 1)) s_Blocks s_Log s_Seq s_Turn) (some true)) := seml_eq (f := 42) (m := 0) (l := 2) (by kernel_rfl)
theorem spec_l10Area_eq (s_Blocks : Int) (s_Log : Int) (s_Seq : Int) (s_Turn : Int) :
    spec_l10Area s_Blocks s_Log s_Seq s_Turn = (
      some (wi64 (2 + s_Log))) := sem_eq (f := 44) (m := 0) rfl (by kernel_rfl)
theorem spec_l12Fits_eq (s_Blocks : Int) (s_Log : Int) (s_Seq : Int) (s_Turn : Int) (pages : Int) :
    spec_l12Fits s_Blocks s_Log s_Seq s_Turn pages = (
      sif ((pages == 0)) (some true) <|
      sif (decide (pages ≤ 60))
       (sbind (spec_l11Blocks pages) fun r1 =>
        some (decide (r1 ≤ s_Log))) (some false)) := sem_eq (f := 43) (m := 0) rfl (by kernel_rfl)
theorem spec_l11Blocks_eq (pages : Int) :
    spec_l11Blocks pages = (
      sbind (spec_l11Table pages) fun r1 =>
      some (wi64 ((wi64 (1 + r1)) + pages))) := sem_eq (f := 66) (m := 0) rfl (by kernel_rfl)
theorem spec_l11Table_eq (pages : Int) :
    spec_l11Table pages = (
      some (wi64 (Int.tdiv (wi64 ((wi64 ((wi64 (2 * pages)) + 64)) - 1)) 64))) := sem_eq (f := 81) (m := 0) rfl (by kernel_rfl)
theorem spec_l13Root_eq (p_Disk_Blocks : List ByteArray) (p_Disk_Pending : List (Int × ByteArray)) (p_Disk_Fuse : Int) (p_Disk_Off : Bool) (p_Super_Blocks : Int) (p_Super_Log : Int) (p_Super_Seq : Int) (p_Super_Turn : Int) (p_Seq : Int) (p_At : Int) (p_Logged : List (Int × ByteArray)) (p_Dirty : List (Int × ByteArray)) :
    spec_l13Root p_Disk_Blocks p_Disk_Pending p_Disk_Fuse p_Disk_Off p_Super_Blocks p_Super_Log p_Super_Seq p_Super_Turn p_Seq p_At p_Logged p_Dirty = (
      sbind (spec_l13Area p_Disk_Blocks p_Disk_Pending p_Disk_Fuse p_Disk_Off p_Super_Blocks p_Super_Log p_Super_Seq p_Super_Turn p_Seq p_At p_Logged p_Dirty) fun r1 =>
      sbind (spec_l01GetUint r1 0 2) fun r2 =>
      some r2.1) := sem_eq (f := 33) (m := 0) rfl (by kernel_rfl)
theorem spec_l13Area_eq (p_Disk_Blocks : List ByteArray) (p_Disk_Pending : List (Int × ByteArray)) (p_Disk_Fuse : Int) (p_Disk_Off : Bool) (p_Super_Blocks : Int) (p_Super_Log : Int) (p_Super_Seq : Int) (p_Super_Turn : Int) (p_Seq : Int) (p_At : Int) (p_Logged : List (Int × ByteArray)) (p_Dirty : List (Int × ByteArray)) :
    spec_l13Area p_Disk_Blocks p_Disk_Pending p_Disk_Fuse p_Disk_Off p_Super_Blocks p_Super_Log p_Super_Seq p_Super_Turn p_Seq p_At p_Logged p_Dirty = (
      sbind (spec_l10Area p_Super_Blocks p_Super_Log p_Super_Seq p_Super_Turn) fun r1 =>
      sbind (spec_l12Get r1 p_Disk_Blocks p_Disk_Pending p_Disk_Fuse p_Disk_Off p_Super_Blocks p_Super_Log p_Super_Seq p_Super_Turn p_Seq p_At p_Logged p_Dirty) fun r2 =>
      some r2) := sem_eq (f := 31) (m := 0) rfl (by kernel_rfl)
theorem spec_l12Get_eq (k : Int) (p_Disk_Blocks : List ByteArray) (p_Disk_Pending : List (Int × ByteArray)) (p_Disk_Fuse : Int) (p_Disk_Off : Bool) (p_Super_Blocks : Int) (p_Super_Log : Int) (p_Super_Seq : Int) (p_Super_Turn : Int) (p_Seq : Int) (p_At : Int) (p_Logged : List (Int × ByteArray)) (p_Dirty : List (Int × ByteArray)) :
    spec_l12Get k p_Disk_Blocks p_Disk_Pending p_Disk_Fuse p_Disk_Off p_Super_Blocks p_Super_Log p_Super_Seq p_Super_Turn p_Seq p_At p_Logged p_Dirty = (
      sbind (spec_l11Find p_Dirty k) fun r1 =>
      sif (decide (r1 ≥ 0))
       (sbind (idx p_Dirty r1) fun x2 =>
        some x2.2) <|
      sbind (spec_l11Find p_Logged k) fun r2 =>
      sif (decide (r2 ≥ 0))
       (sbind (idx p_Logged r2) fun x3 =>
        some x3.2) <|
      sbind (spec_l09Read k p_Disk_Blocks p_Disk_Pending p_Disk_Fuse p_Disk_Off p_Super_Blocks p_Super_Log p_Super_Seq p_Super_Turn p_Seq p_At p_Logged p_Dirty) fun r3 =>
      some r3) := sem_eq (f := 19) (m := 0) rfl (by kernel_rfl)
theorem spec_l11Find_eq (list : List (Int × ByteArray)) (block : Int) :
    spec_l11Find list block = (
      spec_l11Find_l2 list block 0) := sem_eq (f := 45) (m := 0) rfl (by kernel_rfl)
theorem spec_l11Find_l2_eq (list : List (Int × ByteArray)) (block : Int) (i : Int) :
    spec_l11Find_l2 list block i = (
      sif (decide (i < (list.length : Int)))
       (sbind (idx list i) fun x1 =>
        sif ((x1.1 == block)) (some i) (spec_l11Find_l2 list block (wi64 (i + 1)))) (some (-1))) := seml_eq (f := 45) (m := 0) (l := 2) (by kernel_rfl)
theorem spec_l09Read_eq (k : Int) (d_Disk_Blocks : List ByteArray) (d_Disk_Pending : List (Int × ByteArray)) (d_Disk_Fuse : Int) (d_Disk_Off : Bool) (d_Super_Blocks : Int) (d_Super_Log : Int) (d_Super_Seq : Int) (d_Super_Turn : Int) (d_Seq : Int) (d_At : Int) (d_Logged : List (Int × ByteArray)) (d_Dirty : List (Int × ByteArray)) :
    spec_l09Read k d_Disk_Blocks d_Disk_Pending d_Disk_Fuse d_Disk_Off d_Super_Blocks d_Super_Log d_Super_Seq d_Super_Turn d_Seq d_At d_Logged d_Dirty = (
      spec_l09Read_l2 k (wi64 ((d_Disk_Pending.length : Int) - 1)) d_Disk_Blocks d_Disk_Pending d_Disk_Fuse d_Disk_Off d_Super_Blocks d_Super_Log d_Super_Seq d_Super_Turn d_Seq d_At d_Logged d_Dirty) := sem_eq (f := 46) (m := 0) rfl (by kernel_rfl)
theorem spec_l09Read_l2_eq (k : Int) (i : Int) (d_Disk_Blocks : List ByteArray) (d_Disk_Pending : List (Int × ByteArray)) (d_Disk_Fuse : Int) (d_Disk_Off : Bool) (d_Super_Blocks : Int) (d_Super_Log : Int) (d_Super_Seq : Int) (d_Super_Turn : Int) (d_Seq : Int) (d_At : Int) (d_Logged : List (Int × ByteArray)) (d_Dirty : List (Int × ByteArray)) :
    spec_l09Read_l2 k i d_Disk_Blocks d_Disk_Pending d_Disk_Fuse d_Disk_Off d_Super_Blocks d_Super_Log d_Super_Seq d_Super_Turn d_Seq d_At d_Logged d_Dirty = (
      sif (decide (i ≥ 0))
       (sbind (idx d_Disk_Pending i) fun x1 =>
        sif ((x1.1 == k))
         (sbind (idx d_Disk_Pending i) fun x2 =>
          some x2.2) <|
        spec_l09Read_l2 k (wi64 (i - 1)) d_Disk_Blocks d_Disk_Pending d_Disk_Fuse d_Disk_Off d_Super_Blocks d_Super_Log d_Super_Seq d_Super_Turn d_Seq d_At d_Logged d_Dirty) <|
      sbind (idx d_Disk_Blocks k) fun x1 =>
      some x1) := seml_eq (f := 46) (m := 0) (l := 2) (by kernel_rfl)
theorem spec_l01GetUint_eq (s : ByteArray) (at_ : Int) (size : Int) :
    spec_l01GetUint s at_ size = (
      sbind (spec_l01Within s at_ size) fun r1 =>
      sif (!r1) (some (0, false)) <|
      sif ((size == 8))
       (sbind (bidx s (wi64 (at_ + 7))) fun b2 =>
        sif (decide (b2 > 127)) (some (0, false)) (spec_l01GetUint_l5 s at_ 0 (wi64 (size - 1)))) (spec_l01GetUint_l5 s at_ 0 (wi64 (size - 1)))) := sem_eq (f := 63) (m := 0) rfl (by kernel_rfl)
theorem spec_l01GetUint_l5_eq (s : ByteArray) (at_ : Int) (n : Int) (k : Int) :
    spec_l01GetUint_l5 s at_ n k = (
      sif (decide (k ≥ 0))
       (sbind (bidx s (wi64 (at_ + k))) fun b1 =>
        spec_l01GetUint_l5 s at_ (wi64 ((wi64 (n * 256)) + (wi64 b1))) (wi64 (k - 1))) (some (n, true))) := seml_eq (f := 63) (m := 0) (l := 5) (by kernel_rfl)
theorem spec_l01Within_eq (s : ByteArray) (at_ : Int) (size : Int) :
    spec_l01Within s at_ size = (
      sbind (spec_l00In size 1 8) fun r1 =>
      sif (r1)
       (sbind (spec_l00In at_ 0 (s.size : Int)) fun r2 =>
        sif (r2) (some (decide (size ≤ wi64 ((s.size : Int) - at_)))) (some false)) (some false)) := sem_eq (f := 80) (m := 0) rfl (by kernel_rfl)
theorem impl_RootOf_eq (p_Disk_Blocks : List ByteArray) (p_Disk_Pending : List (Int × ByteArray)) (p_Disk_Fuse : Int) (p_Disk_Off : Bool) (p_Super_Blocks : Int) (p_Super_Log : Int) (p_Super_Seq : Int) (p_Super_Turn : Int) (p_Seq : Int) (p_At : Int) (p_Logged : List (Int × ByteArray)) (p_Dirty : List (Int × ByteArray)) :
    impl_RootOf p_Disk_Blocks p_Disk_Pending p_Disk_Fuse p_Disk_Off p_Super_Blocks p_Super_Log p_Super_Seq p_Super_Turn p_Seq p_At p_Logged p_Dirty = (
      sbind (impl_ValidPager p_Disk_Blocks p_Disk_Pending p_Disk_Fuse p_Disk_Off p_Super_Blocks p_Super_Log p_Super_Seq p_Super_Turn p_Seq p_At p_Logged p_Dirty) fun r1 =>
      sif (!r1) (some (0, 1)) <|
      sbind (impl_Pager_root p_Disk_Blocks p_Disk_Pending p_Disk_Fuse p_Disk_Off p_Super_Blocks p_Super_Log p_Super_Seq p_Super_Turn p_Seq p_At p_Logged p_Dirty) fun r2 =>
      some (r2, 0)) := sem_eq (f := 14) (m := 0) rfl (by kernel_rfl)
theorem impl_ValidPager_eq (p_Disk_Blocks : List ByteArray) (p_Disk_Pending : List (Int × ByteArray)) (p_Disk_Fuse : Int) (p_Disk_Off : Bool) (p_Super_Blocks : Int) (p_Super_Log : Int) (p_Super_Seq : Int) (p_Super_Turn : Int) (p_Seq : Int) (p_At : Int) (p_Logged : List (Int × ByteArray)) (p_Dirty : List (Int × ByteArray)) :
    impl_ValidPager p_Disk_Blocks p_Disk_Pending p_Disk_Fuse p_Disk_Off p_Super_Blocks p_Super_Log p_Super_Seq p_Super_Turn p_Seq p_At p_Logged p_Dirty = (
      sbind (impl_superFits p_Disk_Blocks p_Disk_Pending p_Disk_Fuse p_Disk_Off p_Super_Blocks p_Super_Log p_Super_Seq p_Super_Turn) fun r1 =>
      sif (!r1) (some false) <|
      sif (decide ((p_Disk_Pending.length : Int) > 1))
       (sif (!p_Disk_Off) (some false) <|
        sbind (impl_within p_Seq p_Super_Seq 1000000000000) fun r2 =>
        sif (!r2) (some false) <|
        sbind (impl_within p_At 0 p_Super_Log) fun r3 =>
        sif (!r3) (some false) <|
        sbind (impl_ValidPages p_Logged) fun r4 =>
        sif (r4)
         (sbind (impl_ValidPages p_Dirty) fun r5 =>
          sif (r5)
           (sbind (impl_Super_inArea p_Super_Blocks p_Super_Log p_Super_Seq p_Super_Turn p_Logged) fun r6 =>
            sif (r6)
             (sbind (impl_Super_inArea p_Super_Blocks p_Super_Log p_Super_Seq p_Super_Turn p_Dirty) fun r7 =>
              sif (r7)
               (sbind (impl_Super_fits p_Super_Blocks p_Super_Log p_Super_Seq p_Super_Turn (p_Dirty.length : Int)) fun r8 =>
                some r8) (some false)) (some false)) (some false)) (some false)) <|
      sbind (impl_within p_Seq p_Super_Seq 1000000000000) fun r2 =>
      sif (!r2) (some false) <|
      sbind (impl_within p_At 0 p_Super_Log) fun r3 =>
      sif (!r3) (some false) <|
      sbind (impl_ValidPages p_Logged) fun r4 =>
      sif (r4)
       (sbind (impl_ValidPages p_Dirty) fun r5 =>
        sif (r5)
         (sbind (impl_Super_inArea p_Super_Blocks p_Super_Log p_Super_Seq p_Super_Turn p_Logged) fun r6 =>
          sif (r6)
           (sbind (impl_Super_inArea p_Super_Blocks p_Super_Log p_Super_Seq p_Super_Turn p_Dirty) fun r7 =>
            sif (r7)
             (sbind (impl_Super_fits p_Super_Blocks p_Super_Log p_Super_Seq p_Super_Turn (p_Dirty.length : Int)) fun r8 =>
              some r8) (some false)) (some false)) (some false)) (some false)) := sem_eq (f := 23) (m := 0) rfl (by kernel_rfl)
theorem impl_superFits_eq (d_Blocks : List ByteArray) (d_Pending : List (Int × ByteArray)) (d_Fuse : Int) (d_Off : Bool) (s_Blocks : Int) (s_Log : Int) (s_Seq : Int) (s_Turn : Int) :
    impl_superFits d_Blocks d_Pending d_Fuse d_Off s_Blocks s_Log s_Seq s_Turn = (
      sbind (impl_ValidDisk d_Blocks d_Pending d_Fuse d_Off) fun r1 =>
      sif (r1)
       (sbind (impl_ValidSuper s_Blocks s_Log s_Seq s_Turn) fun r2 =>
        sif (r2) (some (s_Blocks == (d_Blocks.length : Int))) (some false)) (some false)) := sem_eq (f := 50) (m := 0) rfl (by kernel_rfl)
theorem impl_ValidDisk_eq (d_Blocks : List ByteArray) (d_Pending : List (Int × ByteArray)) (d_Fuse : Int) (d_Off : Bool) :
    impl_ValidDisk d_Blocks d_Pending d_Fuse d_Off = (
      sbind (impl_within (d_Blocks.length : Int) 16 256) fun r1 =>
      sif (!r1) (some false) <|
      sif (decide ((d_Pending.length : Int) > 600)) (some false) <|
      sbind (impl_within d_Fuse (-1) 100000) fun r2 =>
      sif (!r2) (some false) <|
      sbind (slices_ContainsFunc_sstring_string_d_ValidDisk_1 d_Blocks) fun r3 =>
      sif (r3) (some false) <|
      sbind (slices_ContainsFunc_simpl_Put_impl_Put_d_ValidDisk_2 d_Pending d_Blocks d_Pending d_Fuse d_Off) fun r4 =>
      some !r4) := sem_eq (f := 68) (m := 0) rfl (by kernel_rfl)
theorem impl_within_eq (n : Int) (low : Int) (high : Int) :
    impl_within n low high = (
      sif (decide (n ≥ low)) (some (decide (n ≤ high))) (some false)) := sem_eq (f := 51) (m := 0) rfl (by kernel_rfl)
theorem slices_ContainsFunc_sstring_string_d_ValidDisk_1_eq (s : List ByteArray) :
    slices_ContainsFunc_sstring_string_d_ValidDisk_1 s = (
      sbind (slices_IndexFunc_sstring_string_d_ValidDisk_1 s) fun r1 =>
      some (decide (r1 ≥ 0))) := sem_eq (f := 82) (m := 0) rfl (by kernel_rfl)
theorem slices_IndexFunc_sstring_string_d_ValidDisk_1_eq (s : List ByteArray) :
    slices_IndexFunc_sstring_string_d_ValidDisk_1 s = (
      slices_IndexFunc_sstring_string_d_ValidDisk_1_l2 s (s.length : Int) 0) := sem_eq (f := 91) (m := 0) rfl (by kernel_rfl)
theorem slices_IndexFunc_sstring_string_d_ValidDisk_1_l2_eq (s : List ByteArray) (t7 : Int) (t8 : Int) :
    slices_IndexFunc_sstring_string_d_ValidDisk_1_l2 s t7 t8 = (
      sif (decide (t8 < t7))
       (sbind (idx s t8) fun x1 =>
        sbind (impl_ValidDisk_1 x1) fun r2 =>
        sif (r2) (some t8) <|
        slices_IndexFunc_sstring_string_d_ValidDisk_1_l2 s t7 (wi64 (t8 + 1))) (some (-1))) := seml_eq (f := 91) (m := 0) (l := 2) (by kernel_rfl)
theorem impl_ValidDisk_1_eq (b : ByteArray) :
    impl_ValidDisk_1 b = (
      sbind (impl_isBlock b) fun r1 =>
      some !r1) := sem_eq (f := 83) (m := 0) rfl (by kernel_rfl)
theorem impl_isBlock_eq (s : ByteArray) :
    impl_isBlock s = (
      some ((s.size : Int) == 64)) := sem_eq (f := 70) (m := 0) rfl (by kernel_rfl)
theorem slices_ContainsFunc_simpl_Put_impl_Put_d_ValidDisk_2_eq (s : List (Int × ByteArray)) (c0_Blocks : List ByteArray) (c0_Pending : List (Int × ByteArray)) (c0_Fuse : Int) (c0_Off : Bool) :
    slices_ContainsFunc_simpl_Put_impl_Put_d_ValidDisk_2 s c0_Blocks c0_Pending c0_Fuse c0_Off = (
      sbind (slices_IndexFunc_simpl_Put_impl_Put_d_ValidDisk_2 s c0_Blocks c0_Pending c0_Fuse c0_Off) fun r1 =>
      some (decide (r1 ≥ 0))) := sem_eq (f := 84) (m := 0) rfl (by kernel_rfl)
theorem slices_IndexFunc_simpl_Put_impl_Put_d_ValidDisk_2_eq (s : List (Int × ByteArray)) (c0_Blocks : List ByteArray) (c0_Pending : List (Int × ByteArray)) (c0_Fuse : Int) (c0_Off : Bool) :
    slices_IndexFunc_simpl_Put_impl_Put_d_ValidDisk_2 s c0_Blocks c0_Pending c0_Fuse c0_Off = (
      slices_IndexFunc_simpl_Put_impl_Put_d_ValidDisk_2_l2 s (s.length : Int) 0 c0_Blocks c0_Pending c0_Fuse c0_Off) := sem_eq (f := 92) (m := 0) rfl (by kernel_rfl)
theorem slices_IndexFunc_simpl_Put_impl_Put_d_ValidDisk_2_l2_eq (s : List (Int × ByteArray)) (t7 : Int) (t8 : Int) (c0_Blocks : List ByteArray) (c0_Pending : List (Int × ByteArray)) (c0_Fuse : Int) (c0_Off : Bool) :
    slices_IndexFunc_simpl_Put_impl_Put_d_ValidDisk_2_l2 s t7 t8 c0_Blocks c0_Pending c0_Fuse c0_Off = (
      sif (decide (t8 < t7))
       (sbind (idx s t8) fun x1 =>
        sbind (impl_ValidDisk_2 x1.1 x1.2 c0_Blocks c0_Pending c0_Fuse c0_Off) fun r2 =>
        sif (r2) (some t8) <|
        slices_IndexFunc_simpl_Put_impl_Put_d_ValidDisk_2_l2 s t7 (wi64 (t8 + 1)) c0_Blocks c0_Pending c0_Fuse c0_Off) (some (-1))) := seml_eq (f := 92) (m := 0) (l := 2) (by kernel_rfl)
theorem impl_ValidDisk_2_eq (p_Block : Int) (p_Data : ByteArray) (t1_Blocks : List ByteArray) (t1_Pending : List (Int × ByteArray)) (t1_Fuse : Int) (t1_Off : Bool) :
    impl_ValidDisk_2 p_Block p_Data t1_Blocks t1_Pending t1_Fuse t1_Off = (
      sbind (impl_isIndex p_Block (t1_Blocks.length : Int)) fun r1 =>
      sif (!r1) (some true) <|
      sbind (impl_isBlock p_Data) fun r2 =>
      some !r2) := sem_eq (f := 85) (m := 0) rfl (by kernel_rfl)
theorem impl_isIndex_eq (i : Int) (many : Int) :
    impl_isIndex i many = (
      sbind (impl_within i 0 (wi64 (many - 1))) fun r1 =>
      some r1) := sem_eq (f := 86) (m := 0) rfl (by kernel_rfl)
theorem impl_ValidSuper_eq (s_Blocks : Int) (s_Log : Int) (s_Seq : Int) (s_Turn : Int) :
    impl_ValidSuper s_Blocks s_Log s_Seq s_Turn = (
      sbind (impl_within s_Blocks 16 256) fun r1 =>
      sif (r1)
       (sbind (impl_within s_Log 8 (if wi64 (s_Blocks - 4) < 64 then wi64 (s_Blocks - 4) else 64)) fun r2 =>
        sif (r2)
         (sbind (impl_within s_Seq 0 1000000000000) fun r3 =>
          sif (r3)
           (sbind (impl_within s_Turn 0 1000000000000) fun r4 =>
            some r4) (some false)) (some false)) (some false)) := sem_eq (f := 69) (m := 0) rfl (by kernel_rfl)
theorem impl_ValidPages_eq (list : List (Int × ByteArray)) :
    impl_ValidPages list = (
      impl_ValidPages_l2 list list (list.length : Int) 0) := sem_eq (f := 52) (m := 0) rfl (by kernel_rfl)
theorem impl_ValidPages_l2_eq (list : List (Int × ByteArray)) (t5 : List (Int × ByteArray)) (t6 : Int) (t7 : Int) :
    impl_ValidPages_l2 list t5 t6 t7 = (
      sif (decide (t7 < t6))
       (sbind (idx t5 t7) fun x1 =>
        sbind (impl_within x1.1 0 255) fun r2 =>
        sif (!r2) (some false) <|
        sif (decide (t7 > 0))
         (sbind (idx list (wi64 (t7 - 1))) fun x3 =>
          sif (decide (x1.1 ≤ x3.1)) (some false) <|
          sbind (impl_isBlock x1.2) fun r4 =>
          sif (!r4) (some false) (impl_ValidPages_l2 list t5 t6 (wi64 (t7 + 1)))) <|
        sbind (impl_isBlock x1.2) fun r3 =>
        sif (!r3) (some false) (impl_ValidPages_l2 list t5 t6 (wi64 (t7 + 1)))) (some (decide ((list.length : Int) ≤ 256)))) := seml_eq (f := 52) (m := 0) (l := 2) (by kernel_rfl)
theorem impl_Super_inArea_eq (s_Blocks : Int) (s_Log : Int) (s_Seq : Int) (s_Turn : Int) (list : List (Int × ByteArray)) :
    impl_Super_inArea s_Blocks s_Log s_Seq s_Turn list = (
      sbind (slices_ContainsFunc_simpl_Page_impl_Page_d_Super_inArea_1 list s_Blocks s_Log s_Seq s_Turn) fun r1 =>
      some !r1) := sem_eq (f := 53) (m := 0) rfl (by kernel_rfl)
theorem slices_ContainsFunc_simpl_Page_impl_Page_d_Super_inArea_1_eq (s : List (Int × ByteArray)) (c0_Blocks : Int) (c0_Log : Int) (c0_Seq : Int) (c0_Turn : Int) :
    slices_ContainsFunc_simpl_Page_impl_Page_d_Super_inArea_1 s c0_Blocks c0_Log c0_Seq c0_Turn = (
      sbind (slices_IndexFunc_simpl_Page_impl_Page_d_Super_inArea_1 s c0_Blocks c0_Log c0_Seq c0_Turn) fun r1 =>
      some (decide (r1 ≥ 0))) := sem_eq (f := 71) (m := 0) rfl (by kernel_rfl)
theorem slices_IndexFunc_simpl_Page_impl_Page_d_Super_inArea_1_eq (s : List (Int × ByteArray)) (c0_Blocks : Int) (c0_Log : Int) (c0_Seq : Int) (c0_Turn : Int) :
    slices_IndexFunc_simpl_Page_impl_Page_d_Super_inArea_1 s c0_Blocks c0_Log c0_Seq c0_Turn = (
      slices_IndexFunc_simpl_Page_impl_Page_d_Super_inArea_1_l2 s (s.length : Int) 0 c0_Blocks c0_Log c0_Seq c0_Turn) := sem_eq (f := 87) (m := 0) rfl (by kernel_rfl)
theorem slices_IndexFunc_simpl_Page_impl_Page_d_Super_inArea_1_l2_eq (s : List (Int × ByteArray)) (t7 : Int) (t8 : Int) (c0_Blocks : Int) (c0_Log : Int) (c0_Seq : Int) (c0_Turn : Int) :
    slices_IndexFunc_simpl_Page_impl_Page_d_Super_inArea_1_l2 s t7 t8 c0_Blocks c0_Log c0_Seq c0_Turn = (
      sif (decide (t8 < t7))
       (sbind (idx s t8) fun x1 =>
        sbind (impl_Super_inArea_1 x1.1 x1.2 c0_Blocks c0_Log c0_Seq c0_Turn) fun r2 =>
        sif (r2) (some t8) <|
        slices_IndexFunc_simpl_Page_impl_Page_d_Super_inArea_1_l2 s t7 (wi64 (t8 + 1)) c0_Blocks c0_Log c0_Seq c0_Turn) (some (-1))) := seml_eq (f := 87) (m := 0) (l := 2) (by kernel_rfl)
theorem impl_Super_inArea_1_eq (p_Block : Int) (p_Data : ByteArray) (t1_Blocks : Int) (t1_Log : Int) (t1_Seq : Int) (t1_Turn : Int) :
    impl_Super_inArea_1 p_Block p_Data t1_Blocks t1_Log t1_Seq t1_Turn = (
      sbind (impl_AreaBlock t1_Blocks t1_Log t1_Seq t1_Turn) fun r1 =>
      sbind (impl_within p_Block r1 (wi64 (t1_Blocks - 1))) fun r2 =>
      some !r2) := sem_eq (f := 72) (m := 0) rfl (by kernel_rfl)
theorem impl_AreaBlock_eq (s_Blocks : Int) (s_Log : Int) (s_Seq : Int) (s_Turn : Int) :
    impl_AreaBlock s_Blocks s_Log s_Seq s_Turn = (
      sbind (impl_ValidSuper s_Blocks s_Log s_Seq s_Turn) fun r1 =>
      sif (!r1) (some 0) (some (wi64 (2 + s_Log)))) := sem_eq (f := 73) (m := 0) rfl (by kernel_rfl)
theorem impl_Super_fits_eq (s_Blocks : Int) (s_Log : Int) (s_Seq : Int) (s_Turn : Int) (pages : Int) :
    impl_Super_fits s_Blocks s_Log s_Seq s_Turn pages = (
      sif (decide (pages ≤ 60))
       (sbind (impl_RecordBlocks pages) fun r1 =>
        some (decide (r1 ≤ s_Log))) (some false)) := sem_eq (f := 54) (m := 0) rfl (by kernel_rfl)
theorem impl_RecordBlocks_eq (pages : Int) :
    impl_RecordBlocks pages = (
      sbind (impl_within pages 1 60) fun r1 =>
      sif (!r1) (some 0) <|
      sbind (impl_tableBlocks pages) fun r2 =>
      some (wi64 ((wi64 (1 + r2)) + pages))) := sem_eq (f := 74) (m := 0) rfl (by kernel_rfl)
theorem impl_tableBlocks_eq (pages : Int) :
    impl_tableBlocks pages = (
      some (wi64 (Int.tdiv (wi64 ((wi64 ((wi64 (2 * pages)) + 64)) - 1)) 64))) := sem_eq (f := 88) (m := 0) rfl (by kernel_rfl)
theorem impl_Pager_root_eq (p_Disk_Blocks : List ByteArray) (p_Disk_Pending : List (Int × ByteArray)) (p_Disk_Fuse : Int) (p_Disk_Off : Bool) (p_Super_Blocks : Int) (p_Super_Log : Int) (p_Super_Seq : Int) (p_Super_Turn : Int) (p_Seq : Int) (p_At : Int) (p_Logged : List (Int × ByteArray)) (p_Dirty : List (Int × ByteArray)) :
    impl_Pager_root p_Disk_Blocks p_Disk_Pending p_Disk_Fuse p_Disk_Off p_Super_Blocks p_Super_Log p_Super_Seq p_Super_Turn p_Seq p_At p_Logged p_Dirty = (
      sbind (impl_Pager_area p_Disk_Blocks p_Disk_Pending p_Disk_Fuse p_Disk_Off p_Super_Blocks p_Super_Log p_Super_Seq p_Super_Turn p_Seq p_At p_Logged p_Dirty) fun r1 =>
      sbind (impl_Pager_get r1 p_Disk_Blocks p_Disk_Pending p_Disk_Fuse p_Disk_Off p_Super_Blocks p_Super_Log p_Super_Seq p_Super_Turn p_Seq p_At p_Logged p_Dirty) fun r2 =>
      sif (le3 0 2 (r2.size : Int))
       (sbind (impl_getBits (r2.extract 0 2)) fun r3 =>
        some (wi64 r3)) (none)) := sem_eq (f := 34) (m := 0) rfl (by kernel_rfl)
theorem impl_Pager_area_eq (p_Disk_Blocks : List ByteArray) (p_Disk_Pending : List (Int × ByteArray)) (p_Disk_Fuse : Int) (p_Disk_Off : Bool) (p_Super_Blocks : Int) (p_Super_Log : Int) (p_Super_Seq : Int) (p_Super_Turn : Int) (p_Seq : Int) (p_At : Int) (p_Logged : List (Int × ByteArray)) (p_Dirty : List (Int × ByteArray)) :
    impl_Pager_area p_Disk_Blocks p_Disk_Pending p_Disk_Fuse p_Disk_Off p_Super_Blocks p_Super_Log p_Super_Seq p_Super_Turn p_Seq p_At p_Logged p_Dirty = (
      some (wi64 (2 + p_Super_Log))) := sem_eq (f := 55) (m := 0) rfl (by kernel_rfl)
theorem impl_Pager_get_eq (k : Int) (p_Disk_Blocks : List ByteArray) (p_Disk_Pending : List (Int × ByteArray)) (p_Disk_Fuse : Int) (p_Disk_Off : Bool) (p_Super_Blocks : Int) (p_Super_Log : Int) (p_Super_Seq : Int) (p_Super_Turn : Int) (p_Seq : Int) (p_At : Int) (p_Logged : List (Int × ByteArray)) (p_Dirty : List (Int × ByteArray)) :
    impl_Pager_get k p_Disk_Blocks p_Disk_Pending p_Disk_Fuse p_Disk_Off p_Super_Blocks p_Super_Log p_Super_Seq p_Super_Turn p_Seq p_At p_Logged p_Dirty = (
      sbind (impl_pageAt p_Dirty k) fun r1 =>
      sif (r1.2)
       (sbind (idx p_Dirty r1.1) fun x2 =>
        some x2.2) <|
      sbind (impl_Pager_committed k p_Disk_Blocks p_Disk_Pending p_Disk_Fuse p_Disk_Off p_Super_Blocks p_Super_Log p_Super_Seq p_Super_Turn p_Seq p_At p_Logged p_Dirty) fun r2 =>
      some r2) := sem_eq (f := 25) (m := 0) rfl (by kernel_rfl)
theorem impl_pageAt_eq (list : List (Int × ByteArray)) (block : Int) :
    impl_pageAt list block = (
      sbind (slices_BinarySearchFunc_simpl_Page_impl_Page_int64_d_pageAt_1 list block) fun r1 =>
      some (r1.1, r1.2)) := sem_eq (f := 56) (m := 0) rfl (by kernel_rfl)
theorem slices_BinarySearchFunc_simpl_Page_impl_Page_int64_d_pageAt_1_eq (x : List (Int × ByteArray)) (target : Int) :
    slices_BinarySearchFunc_simpl_Page_impl_Page_int64_d_pageAt_1 x target = (
      slices_BinarySearchFunc_simpl_Page_impl_Page_int64_d_pageAt_1_l3 x target (x.length : Int) 0 (x.length : Int)) := sem_eq (f := 75) (m := 0) rfl (by kernel_rfl)
theorem slices_BinarySearchFunc_simpl_Page_impl_Page_int64_d_pageAt_1_l3_eq (x : List (Int × ByteArray)) (target : Int) (n : Int) (i : Int) (j : Int) :
    slices_BinarySearchFunc_simpl_Page_impl_Page_int64_d_pageAt_1_l3 x target n i j = (
      sif (decide (i < j))
       (sbind (idx x (wi64 (Int.fdiv (wu64 (wi64 (i + j))) (2 ^ 1)))) fun x1 =>
        sbind (impl_pageAt_1 x1.1 x1.2 target) fun r2 =>
        sif (decide (r2 < 0))
         (slices_BinarySearchFunc_simpl_Page_impl_Page_int64_d_pageAt_1_l3 x target n (wi64 ((wi64 (Int.fdiv (wu64 (wi64 (i + j))) (2 ^ 1))) + 1)) j) <|
        slices_BinarySearchFunc_simpl_Page_impl_Page_int64_d_pageAt_1_l3 x target n i (wi64 (Int.fdiv (wu64 (wi64 (i + j))) (2 ^ 1)))) <|
      sif (decide (i < n))
       (sbind (idx x i) fun x1 =>
        sbind (impl_pageAt_1 x1.1 x1.2 target) fun r2 =>
        some (i, (r2 == 0))) (some (i, false))) := seml_eq (f := 75) (m := 0) (l := 3) (by kernel_rfl)
theorem impl_pageAt_1_eq (p_Block : Int) (p_Data : ByteArray) (block : Int) :
    impl_pageAt_1 p_Block p_Data block = (
      sbind (cmp_Compare_int64 p_Block block) fun r1 =>
      some r1) := sem_eq (f := 76) (m := 0) rfl (by kernel_rfl)
theorem cmp_Compare_int64_eq (x : Int) (y : Int) :
    cmp_Compare_int64 x y = (
      sbind (cmp_isNaN_int64 x) fun r1 =>
      sbind (cmp_isNaN_int64 y) fun r2 =>
      sif (r1) (sif (r2) (some 0) (some (-1))) <|
      sif (r2) (some 1) <|
      sif (decide (x < y)) (some (-1)) (sif (decide (x > y)) (some 1) (some 0))) := sem_eq (f := 77) (m := 0) rfl (by kernel_rfl)
theorem cmp_isNaN_int64_eq (x : Int) :
    cmp_isNaN_int64 x = (
      some (x != x)) := sem_eq (f := 89) (m := 0) rfl (by kernel_rfl)
theorem impl_Pager_committed_eq (k : Int) (p_Disk_Blocks : List ByteArray) (p_Disk_Pending : List (Int × ByteArray)) (p_Disk_Fuse : Int) (p_Disk_Off : Bool) (p_Super_Blocks : Int) (p_Super_Log : Int) (p_Super_Seq : Int) (p_Super_Turn : Int) (p_Seq : Int) (p_At : Int) (p_Logged : List (Int × ByteArray)) (p_Dirty : List (Int × ByteArray)) :
    impl_Pager_committed k p_Disk_Blocks p_Disk_Pending p_Disk_Fuse p_Disk_Off p_Super_Blocks p_Super_Log p_Super_Seq p_Super_Turn p_Seq p_At p_Logged p_Dirty = (
      sbind (impl_pageAt p_Logged k) fun r1 =>
      sif (r1.2)
       (sbind (idx p_Logged r1.1) fun x2 =>
        some x2.2) <|
      sbind (impl_Disk_read p_Disk_Blocks p_Disk_Pending p_Disk_Fuse p_Disk_Off k) fun r2 =>
      some r2) := sem_eq (f := 57) (m := 0) rfl (by kernel_rfl)
theorem impl_Disk_read_eq (x0 : List ByteArray) (x1 : List (Int × ByteArray)) (x2 : Int) (x3 : Bool) (x4 : Int) : impl_Disk_read x0 x1 x2 x3 x4 = dkRead x0 x1 x4 := ext_eq (E := E) (f := 78) (m := 0) (g := fun (d : List ByteArray × List (Int × ByteArray) × Int × Bool × Int) => (dkRead (d.1) (d.2.1) (d.2.2.2.2) : Option (ByteArray))) (by kernel_rfl) (x0, x1, x2, x3, x4)
theorem impl_getBits_eq (s : ByteArray) :
    impl_getBits s = (
      impl_getBits_l3 s 0 (s.size : Int) 0) := sem_eq (f := 64) (m := 0) rfl (by kernel_rfl)
theorem impl_getBits_l3_eq (s : ByteArray) (n : Int) (t6 : Int) (t7 : Int) :
    impl_getBits_l3 s n t6 t7 = (
      sif (decide (t7 < t6))
       (sbind (bidx s t7) fun b1 =>
        sif (decide (wi64 (8 * t7) < 0)) (none) <|
        impl_getBits_l3 s (bits .or .u64 n (wu64 ((wu64 b1) * 2 ^ (min (wi64 (8 * t7)).toNat 64)))) t6 (wi64 (t7 + 1))) (some n)) := seml_eq (f := 64) (m := 0) (l := 3) (by kernel_rfl)
theorem laws_eqPager_eq (a_Disk_Blocks : List ByteArray) (a_Disk_Pending : List (Int × ByteArray)) (a_Disk_Fuse : Int) (a_Disk_Off : Bool) (a_Super_Blocks : Int) (a_Super_Log : Int) (a_Super_Seq : Int) (a_Super_Turn : Int) (a_Seq : Int) (a_At : Int) (a_Logged : List (Int × ByteArray)) (a_Dirty : List (Int × ByteArray)) (b_Disk_Blocks : List ByteArray) (b_Disk_Pending : List (Int × ByteArray)) (b_Disk_Fuse : Int) (b_Disk_Off : Bool) (b_Super_Blocks : Int) (b_Super_Log : Int) (b_Super_Seq : Int) (b_Super_Turn : Int) (b_Seq : Int) (b_At : Int) (b_Logged : List (Int × ByteArray)) (b_Dirty : List (Int × ByteArray)) :
    laws_eqPager a_Disk_Blocks a_Disk_Pending a_Disk_Fuse a_Disk_Off a_Super_Blocks a_Super_Log a_Super_Seq a_Super_Turn a_Seq a_At a_Logged a_Dirty b_Disk_Blocks b_Disk_Pending b_Disk_Fuse b_Disk_Off b_Super_Blocks b_Super_Log b_Super_Seq b_Super_Turn b_Seq b_At b_Logged b_Dirty = (
      sbind (laws_eqDisk a_Disk_Blocks a_Disk_Pending a_Disk_Fuse a_Disk_Off b_Disk_Blocks b_Disk_Pending b_Disk_Fuse b_Disk_Off) fun r1 =>
      sif (!r1) (some false) <|
      sbind (laws_eqSuper a_Super_Blocks a_Super_Log a_Super_Seq a_Super_Turn b_Super_Blocks b_Super_Log b_Super_Seq b_Super_Turn) fun r2 =>
      sif (!r2) (some false) <|
      sif ((a_Seq != b_Seq)) (some false) <|
      sif ((a_At != b_At)) (some false) <|
      sbind (laws_eqPageS a_Logged b_Logged) fun r3 =>
      sif (!r3) (some false) <|
      sbind (laws_eqPageS a_Dirty b_Dirty) fun r4 =>
      sif (!r4) (some false) (some true)) := sem_eq (f := 10) (m := 0) rfl (by kernel_rfl)
theorem laws_eqDisk_eq (a_Blocks : List ByteArray) (a_Pending : List (Int × ByteArray)) (a_Fuse : Int) (a_Off : Bool) (b_Blocks : List ByteArray) (b_Pending : List (Int × ByteArray)) (b_Fuse : Int) (b_Off : Bool) :
    laws_eqDisk a_Blocks a_Pending a_Fuse a_Off b_Blocks b_Pending b_Fuse b_Off = (
      sbind (laws_eqStringS a_Blocks b_Blocks) fun r1 =>
      sif (!r1) (some false) <|
      sbind (laws_eqPutS a_Pending b_Pending) fun r2 =>
      sif (!r2) (some false) <|
      sif ((a_Fuse != b_Fuse)) (some false) (sif (!(a_Off == b_Off)) (some false) (some true))) := sem_eq (f := 26) (m := 0) rfl (by kernel_rfl)
theorem laws_eqStringS_eq (a : List ByteArray) (b : List ByteArray) :
    laws_eqStringS a b = (
      sif (((a.length : Int) != (b.length : Int))) (some false) (laws_eqStringS_l4 a b 0)) := sem_eq (f := 58) (m := 0) rfl (by kernel_rfl)
theorem laws_eqStringS_l4_eq (a : List ByteArray) (b : List ByteArray) (i : Int) :
    laws_eqStringS_l4 a b i = (
      sif (decide (i < (a.length : Int)))
       (sbind (idx a i) fun x1 =>
        sbind (idx b i) fun x2 =>
        sif (!seq x1 x2) (some false) (laws_eqStringS_l4 a b (wi64 (i + 1)))) (some true)) := seml_eq (f := 58) (m := 0) (l := 4) (by kernel_rfl)
theorem laws_eqPutS_eq (a : List (Int × ByteArray)) (b : List (Int × ByteArray)) :
    laws_eqPutS a b = (
      sif (((a.length : Int) != (b.length : Int))) (some false) (laws_eqPutS_l4 a b 0)) := sem_eq (f := 59) (m := 0) rfl (by kernel_rfl)
theorem laws_eqPutS_l4_eq (a : List (Int × ByteArray)) (b : List (Int × ByteArray)) (i : Int) :
    laws_eqPutS_l4 a b i = (
      sif (decide (i < (a.length : Int)))
       (sbind (idx a i) fun x1 =>
        sbind (idx b i) fun x2 =>
        sbind (laws_eqPut x1.1 x1.2 x2.1 x2.2) fun r3 =>
        sif (!r3) (some false) (laws_eqPutS_l4 a b (wi64 (i + 1)))) (some true)) := seml_eq (f := 59) (m := 0) (l := 4) (by kernel_rfl)
theorem laws_eqPut_eq (a_Block : Int) (a_Data : ByteArray) (b_Block : Int) (b_Data : ByteArray) :
    laws_eqPut a_Block a_Data b_Block b_Data = (
      sif ((a_Block != b_Block)) (some false) (sif (!seq a_Data b_Data) (some false) (some true))) := sem_eq (f := 79) (m := 0) rfl (by kernel_rfl)
theorem laws_eqSuper_eq (a_Blocks : Int) (a_Log : Int) (a_Seq : Int) (a_Turn : Int) (b_Blocks : Int) (b_Log : Int) (b_Seq : Int) (b_Turn : Int) :
    laws_eqSuper a_Blocks a_Log a_Seq a_Turn b_Blocks b_Log b_Seq b_Turn = (
      sif ((a_Blocks != b_Blocks)) (some false) <|
      sif ((a_Log != b_Log)) (some false) <|
      sif ((a_Seq != b_Seq)) (some false) (sif ((a_Turn != b_Turn)) (some false) (some true))) := sem_eq (f := 27) (m := 0) rfl (by kernel_rfl)
theorem laws_eqPageS_eq (a : List (Int × ByteArray)) (b : List (Int × ByteArray)) :
    laws_eqPageS a b = (
      sif (((a.length : Int) != (b.length : Int))) (some false) (laws_eqPageS_l4 a b 0)) := sem_eq (f := 28) (m := 0) rfl (by kernel_rfl)
theorem laws_eqPageS_l4_eq (a : List (Int × ByteArray)) (b : List (Int × ByteArray)) (i : Int) :
    laws_eqPageS_l4 a b i = (
      sif (decide (i < (a.length : Int)))
       (sbind (idx a i) fun x1 =>
        sbind (idx b i) fun x2 =>
        sbind (laws_eqPage x1.1 x1.2 x2.1 x2.2) fun r3 =>
        sif (!r3) (some false) (laws_eqPageS_l4 a b (wi64 (i + 1)))) (some true)) := seml_eq (f := 28) (m := 0) (l := 4) (by kernel_rfl)
theorem laws_eqPage_eq (a_Block : Int) (a_Data : ByteArray) (b_Block : Int) (b_Data : ByteArray) :
    laws_eqPage a_Block a_Data b_Block b_Data = (
      sif ((a_Block != b_Block)) (some false) (sif (!seq a_Data b_Data) (some false) (some true))) := sem_eq (f := 60) (m := 0) rfl (by kernel_rfl)
end Go.Ve.X
