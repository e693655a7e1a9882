/- The equations of the functions that 'FnExactSameShell' reaches (printed by plan.py): what each answers. No condition. -/
import Derived.Test.YtoelenagbkbmpaaEnvFnExactSameShell
namespace Go.Ve.X
open Go.Proofs Go.Ve
set_option linter.unusedVariables false
set_option maxRecDepth 100000
theorem laws_FnExactSameShell_eq (aA_Store_Pager_Disk_Blocks : List ByteArray) (aA_Store_Pager_Disk_Pending : List (Int × ByteArray)) (aA_Store_Pager_Disk_Fuse : Int) (aA_Store_Pager_Disk_Off : Bool) (aA_Store_Pager_Super_Blocks : Int) (aA_Store_Pager_Super_Log : Int) (aA_Store_Pager_Super_Seq : Int) (aA_Store_Pager_Super_Turn : Int) (aA_Store_Pager_Seq : Int) (aA_Store_Pager_At : Int) (aA_Store_Pager_Logged : List (Int × ByteArray)) (aA_Store_Pager_Dirty : List (Int × ByteArray)) (aA_Vars : List (ByteArray × List Int × List Int)) (aB_Store_Pager_Disk_Blocks : List ByteArray) (aB_Store_Pager_Disk_Pending : List (Int × ByteArray)) (aB_Store_Pager_Disk_Fuse : Int) (aB_Store_Pager_Disk_Off : Bool) (aB_Store_Pager_Super_Blocks : Int) (aB_Store_Pager_Super_Log : Int) (aB_Store_Pager_Super_Seq : Int) (aB_Store_Pager_Super_Turn : Int) (aB_Store_Pager_Seq : Int) (aB_Store_Pager_At : Int) (aB_Store_Pager_Logged : List (Int × ByteArray)) (aB_Store_Pager_Dirty : List (Int × ByteArray)) (aB_Vars : List (ByteArray × List Int × List Int)) :
    laws_FnExactSameShell aA_Store_Pager_Disk_Blocks aA_Store_Pager_Disk_Pending aA_Store_Pager_Disk_Fuse aA_Store_Pager_Disk_Off aA_Store_Pager_Super_Blocks aA_Store_Pager_Super_Log aA_Store_Pager_Super_Seq aA_Store_Pager_Super_Turn aA_Store_Pager_Seq aA_Store_Pager_At aA_Store_Pager_Logged aA_Store_Pager_Dirty aA_Vars aB_Store_Pager_Disk_Blocks aB_Store_Pager_Disk_Pending aB_Store_Pager_Disk_Fuse aB_Store_Pager_Disk_Off aB_Store_Pager_Super_Blocks aB_Store_Pager_Super_Log aB_Store_Pager_Super_Seq aB_Store_Pager_Super_Turn aB_Store_Pager_Seq aB_Store_Pager_At aB_Store_Pager_Logged aB_Store_Pager_Dirty aB_Vars = (
      sbind (laws_szShell aA_Store_Pager_Disk_Blocks aA_Store_Pager_Disk_Pending aA_Store_Pager_Disk_Fuse aA_Store_Pager_Disk_Off aA_Store_Pager_Super_Blocks aA_Store_Pager_Super_Log aA_Store_Pager_Super_Seq aA_Store_Pager_Super_Turn aA_Store_Pager_Seq aA_Store_Pager_At aA_Store_Pager_Logged aA_Store_Pager_Dirty aA_Vars 1048576) fun r1 =>
      sif (decide (r1 < 0)) (some true) <|
      sbind (laws_szShell aB_Store_Pager_Disk_Blocks aB_Store_Pager_Disk_Pending aB_Store_Pager_Disk_Fuse aB_Store_Pager_Disk_Off aB_Store_Pager_Super_Blocks aB_Store_Pager_Super_Log aB_Store_Pager_Super_Seq aB_Store_Pager_Super_Turn aB_Store_Pager_Seq aB_Store_Pager_At aB_Store_Pager_Logged aB_Store_Pager_Dirty aB_Vars r1) fun r2 =>
      sif (decide (r2 < 0)) (some true) <|
      sbind (laws_toShell aA_Store_Pager_Disk_Blocks aA_Store_Pager_Disk_Pending aA_Store_Pager_Disk_Fuse aA_Store_Pager_Disk_Off aA_Store_Pager_Super_Blocks aA_Store_Pager_Super_Log aA_Store_Pager_Super_Seq aA_Store_Pager_Super_Turn aA_Store_Pager_Seq aA_Store_Pager_At aA_Store_Pager_Logged aA_Store_Pager_Dirty aA_Vars) fun r3 =>
      sbind (laws_toShell aB_Store_Pager_Disk_Blocks aB_Store_Pager_Disk_Pending aB_Store_Pager_Disk_Fuse aB_Store_Pager_Disk_Off aB_Store_Pager_Super_Blocks aB_Store_Pager_Super_Log aB_Store_Pager_Super_Seq aB_Store_Pager_Super_Turn aB_Store_Pager_Seq aB_Store_Pager_At aB_Store_Pager_Logged aB_Store_Pager_Dirty aB_Vars) fun r4 =>
      sbind (spec_SameShell r3.2.2.2.2.2.2.2.2.1 r3.2.2.2.2.2.2.2.2.2.1 r3.1 r3.2.1 r3.2.2.1 r3.2.2.2.1 r3.2.2.2.2.1 r3.2.2.2.2.2.1 r3.2.2.2.2.2.2.1 r3.2.2.2.2.2.2.2.1 r3.2.2.2.2.2.2.2.2.2.2.1 r3.2.2.2.2.2.2.2.2.2.2.2.1 r3.2.2.2.2.2.2.2.2.2.2.2.2 r4.2.2.2.2.2.2.2.2.1 r4.2.2.2.2.2.2.2.2.2.1 r4.1 r4.2.1 r4.2.2.1 r4.2.2.2.1 r4.2.2.2.2.1 r4.2.2.2.2.2.1 r4.2.2.2.2.2.2.1 r4.2.2.2.2.2.2.2.1 r4.2.2.2.2.2.2.2.2.2.2.1 r4.2.2.2.2.2.2.2.2.2.2.2.1 r4.2.2.2.2.2.2.2.2.2.2.2.2) fun r5 =>
      sbind (laws_toShell aA_Store_Pager_Disk_Blocks aA_Store_Pager_Disk_Pending aA_Store_Pager_Disk_Fuse aA_Store_Pager_Disk_Off aA_Store_Pager_Super_Blocks aA_Store_Pager_Super_Log aA_Store_Pager_Super_Seq aA_Store_Pager_Super_Turn aA_Store_Pager_Seq aA_Store_Pager_At aA_Store_Pager_Logged aA_Store_Pager_Dirty aA_Vars) fun r6 =>
      sbind (laws_toShell aB_Store_Pager_Disk_Blocks aB_Store_Pager_Disk_Pending aB_Store_Pager_Disk_Fuse aB_Store_Pager_Disk_Off aB_Store_Pager_Super_Blocks aB_Store_Pager_Super_Log aB_Store_Pager_Super_Seq aB_Store_Pager_Super_Turn aB_Store_Pager_Seq aB_Store_Pager_At aB_Store_Pager_Logged aB_Store_Pager_Dirty aB_Vars) fun r7 =>
      sbind (impl_SameShell r6.2.2.2.2.2.2.2.2.1 r6.2.2.2.2.2.2.2.2.2.1 r6.1 r6.2.1 r6.2.2.1 r6.2.2.2.1 r6.2.2.2.2.1 r6.2.2.2.2.2.1 r6.2.2.2.2.2.2.1 r6.2.2.2.2.2.2.2.1 r6.2.2.2.2.2.2.2.2.2.2.1 r6.2.2.2.2.2.2.2.2.2.2.2.1 r6.2.2.2.2.2.2.2.2.2.2.2.2 r7.2.2.2.2.2.2.2.2.1 r7.2.2.2.2.2.2.2.2.2.1 r7.1 r7.2.1 r7.2.2.1 r7.2.2.2.1 r7.2.2.2.2.1 r7.2.2.2.2.2.1 r7.2.2.2.2.2.2.1 r7.2.2.2.2.2.2.2.1 r7.2.2.2.2.2.2.2.2.2.2.1 r7.2.2.2.2.2.2.2.2.2.2.2.1 r7.2.2.2.2.2.2.2.2.2.2.2.2) fun r8 =>
      sif (!(r8 == r5)) (some false) <|
      sbind (laws_toShell aA_Store_Pager_Disk_Blocks aA_Store_Pager_Disk_Pending aA_Store_Pager_Disk_Fuse aA_Store_Pager_Disk_Off aA_Store_Pager_Super_Blocks aA_Store_Pager_Super_Log aA_Store_Pager_Super_Seq aA_Store_Pager_Super_Turn aA_Store_Pager_Seq aA_Store_Pager_At aA_Store_Pager_Logged aA_Store_Pager_Dirty aA_Vars) fun r9 =>
      sbind (laws_eqShell r6.2.2.2.2.2.2.2.2.1 r6.2.2.2.2.2.2.2.2.2.1 r6.1 r6.2.1 r6.2.2.1 r6.2.2.2.1 r6.2.2.2.2.1 r6.2.2.2.2.2.1 r6.2.2.2.2.2.2.1 r6.2.2.2.2.2.2.2.1 r6.2.2.2.2.2.2.2.2.2.2.1 r6.2.2.2.2.2.2.2.2.2.2.2.1 r6.2.2.2.2.2.2.2.2.2.2.2.2 r9.2.2.2.2.2.2.2.2.1 r9.2.2.2.2.2.2.2.2.2.1 r9.1 r9.2.1 r9.2.2.1 r9.2.2.2.1 r9.2.2.2.2.1 r9.2.2.2.2.2.1 r9.2.2.2.2.2.2.1 r9.2.2.2.2.2.2.2.1 r9.2.2.2.2.2.2.2.2.2.2.1 r9.2.2.2.2.2.2.2.2.2.2.2.1 r9.2.2.2.2.2.2.2.2.2.2.2.2) fun r10 =>
      sif (!r10) (some false) <|
      sbind (laws_toShell aB_Store_Pager_Disk_Blocks aB_Store_Pager_Disk_Pending aB_Store_Pager_Disk_Fuse aB_Store_Pager_Disk_Off aB_Store_Pager_Super_Blocks aB_Store_Pager_Super_Log aB_Store_Pager_Super_Seq aB_Store_Pager_Super_Turn aB_Store_Pager_Seq aB_Store_Pager_At aB_Store_Pager_Logged aB_Store_Pager_Dirty aB_Vars) fun r11 =>
      sbind (laws_eqShell r7.2.2.2.2.2.2.2.2.1 r7.2.2.2.2.2.2.2.2.2.1 r7.1 r7.2.1 r7.2.2.1 r7.2.2.2.1 r7.2.2.2.2.1 r7.2.2.2.2.2.1 r7.2.2.2.2.2.2.1 r7.2.2.2.2.2.2.2.1 r7.2.2.2.2.2.2.2.2.2.2.1 r7.2.2.2.2.2.2.2.2.2.2.2.1 r7.2.2.2.2.2.2.2.2.2.2.2.2 r11.2.2.2.2.2.2.2.2.1 r11.2.2.2.2.2.2.2.2.2.1 r11.1 r11.2.1 r11.2.2.1 r11.2.2.2.1 r11.2.2.2.2.1 r11.2.2.2.2.2.1 r11.2.2.2.2.2.2.1 r11.2.2.2.2.2.2.2.1 r11.2.2.2.2.2.2.2.2.2.2.1 r11.2.2.2.2.2.2.2.2.2.2.2.1 r11.2.2.2.2.2.2.2.2.2.2.2.2) fun r12 =>
      sif (!r12) (some false) (some true)) := sem_eq (f := 5) (m := 0) rfl (by kernel_rfl)
theorem laws_szShell_eq (a_Store_Pager_Disk_Blocks : List ByteArray) (a_Store_Pager_Disk_Pending : List (Int × ByteArray)) (a_Store_Pager_Disk_Fuse : Int) (a_Store_Pager_Disk_Off : Bool) (a_Store_Pager_Super_Blocks : Int) (a_Store_Pager_Super_Log : Int) (a_Store_Pager_Super_Seq : Int) (a_Store_Pager_Super_Turn : Int) (a_Store_Pager_Seq : Int) (a_Store_Pager_At : Int) (a_Store_Pager_Logged : List (Int × ByteArray)) (a_Store_Pager_Dirty : List (Int × ByteArray)) (a_Vars : List (ByteArray × List Int × List Int)) (left : Int) :
    laws_szShell a_Store_Pager_Disk_Blocks a_Store_Pager_Disk_Pending a_Store_Pager_Disk_Fuse a_Store_Pager_Disk_Off a_Store_Pager_Super_Blocks a_Store_Pager_Super_Log a_Store_Pager_Super_Seq a_Store_Pager_Super_Turn a_Store_Pager_Seq a_Store_Pager_At a_Store_Pager_Logged a_Store_Pager_Dirty a_Vars left = (
      sbind (laws_szStore a_Store_Pager_Disk_Blocks a_Store_Pager_Disk_Pending a_Store_Pager_Disk_Fuse a_Store_Pager_Disk_Off a_Store_Pager_Super_Blocks a_Store_Pager_Super_Log a_Store_Pager_Super_Seq a_Store_Pager_Super_Turn a_Store_Pager_Seq a_Store_Pager_At a_Store_Pager_Logged a_Store_Pager_Dirty left) fun r1 =>
      sif (decide (r1 < 0)) (some (-1)) <|
      sbind (laws_szNamedNumbersS a_Vars r1) fun r2 =>
      sif (decide (r2 < 0)) (some (-1)) (some r2)) := sem_eq (f := 19) (m := 0) rfl (by kernel_rfl)
theorem laws_szStore_eq (a_Pager_Disk_Blocks : List ByteArray) (a_Pager_Disk_Pending : List (Int × ByteArray)) (a_Pager_Disk_Fuse : Int) (a_Pager_Disk_Off : Bool) (a_Pager_Super_Blocks : Int) (a_Pager_Super_Log : Int) (a_Pager_Super_Seq : Int) (a_Pager_Super_Turn : Int) (a_Pager_Seq : Int) (a_Pager_At : Int) (a_Pager_Logged : List (Int × ByteArray)) (a_Pager_Dirty : List (Int × ByteArray)) (left : Int) :
    laws_szStore a_Pager_Disk_Blocks a_Pager_Disk_Pending a_Pager_Disk_Fuse a_Pager_Disk_Off a_Pager_Super_Blocks a_Pager_Super_Log a_Pager_Super_Seq a_Pager_Super_Turn a_Pager_Seq a_Pager_At a_Pager_Logged a_Pager_Dirty left = (
      sbind (laws_szPager a_Pager_Disk_Blocks a_Pager_Disk_Pending a_Pager_Disk_Fuse a_Pager_Disk_Off a_Pager_Super_Blocks a_Pager_Super_Log a_Pager_Super_Seq a_Pager_Super_Turn a_Pager_Seq a_Pager_At a_Pager_Logged a_Pager_Dirty left) fun r1 =>
      sif (decide (r1 < 0)) (some (-1)) (some r1)) := sem_eq (f := 51) (m := 0) rfl (by kernel_rfl)
theorem laws_szPager_eq (a_Disk_Blocks : List ByteArray) (a_Disk_Pending : List (Int × ByteArray)) (a_Disk_Fuse : Int) (a_Disk_Off : Bool) (a_Super_Blocks : Int) (a_Super_Log : Int) (a_Super_Seq : Int) (a_Super_Turn : Int) (a_Seq : Int) (a_At : Int) (a_Logged : List (Int × ByteArray)) (a_Dirty : List (Int × ByteArray)) (left : Int) :
    laws_szPager a_Disk_Blocks a_Disk_Pending a_Disk_Fuse a_Disk_Off a_Super_Blocks a_Super_Log a_Super_Seq a_Super_Turn a_Seq a_At a_Logged a_Dirty left = (
      sbind (laws_szDisk a_Disk_Blocks a_Disk_Pending a_Disk_Fuse a_Disk_Off left) fun r1 =>
      sif (decide (r1 < 0)) (some (-1)) <|
      sbind (laws_szPageS a_Logged r1) fun r2 =>
      sif (decide (r2 < 0)) (some (-1)) <|
      sbind (laws_szPageS a_Dirty r2) fun r3 =>
      sif (decide (r3 < 0)) (some (-1)) (some r3)) := sem_eq (f := 14) (m := 0) rfl (by kernel_rfl)
theorem laws_szDisk_eq (a_Blocks : List ByteArray) (a_Pending : List (Int × ByteArray)) (a_Fuse : Int) (a_Off : Bool) (left : Int) :
    laws_szDisk a_Blocks a_Pending a_Fuse a_Off left = (
      sbind (laws_szStringS a_Blocks left) fun r1 =>
      sif (decide (r1 < 0)) (some (-1)) <|
      sbind (laws_szPutS a_Pending r1) fun r2 =>
      sif (decide (r2 < 0)) (some (-1)) (some r2)) := sem_eq (f := 37) (m := 0) rfl (by kernel_rfl)
theorem laws_szStringS_eq (a : List ByteArray) (left : Int) :
    laws_szStringS a left = (
      sif (decide (wi64 (left - (a.length : Int)) < 0)) (some (-1)) <|
      laws_szStringS_l5 a (wi64 (left - (a.length : Int))) 0) := sem_eq (f := 81) (m := 0) rfl (by kernel_rfl)
theorem laws_szStringS_l5_eq (a : List ByteArray) (left : Int) (i : Int) :
    laws_szStringS_l5 a left i = (
      sif (decide (i < (a.length : Int)))
       (sbind (idx a i) fun x1 =>
        sif (decide (wi64 (left - (x1.size : Int)) < 0)) (some (-1)) <|
        laws_szStringS_l5 a (wi64 (left - (x1.size : Int))) (wi64 (i + 1))) (some left)) := seml_eq (f := 81) (m := 0) (l := 5) (by kernel_rfl)
theorem laws_szPutS_eq (a : List (Int × ByteArray)) (left : Int) :
    laws_szPutS a left = (
      sif (decide (wi64 (left - (a.length : Int)) < 0)) (some (-1)) (laws_szPutS_l5 a (wi64 (left - (a.length : Int))) 0)) := sem_eq (f := 82) (m := 0) rfl (by kernel_rfl)
theorem laws_szPutS_l5_eq (a : List (Int × ByteArray)) (left : Int) (i : Int) :
    laws_szPutS_l5 a left i = (
      sif (decide (i < (a.length : Int)))
       (sbind (idx a i) fun x1 =>
        sbind (laws_szPut x1.1 x1.2 left) fun r2 =>
        sif (decide (r2 < 0)) (some (-1)) (laws_szPutS_l5 a r2 (wi64 (i + 1)))) (some left)) := seml_eq (f := 82) (m := 0) (l := 5) (by kernel_rfl)
theorem laws_szPut_eq (a_Block : Int) (a_Data : ByteArray) (left : Int) :
    laws_szPut a_Block a_Data left = (
      sif (decide (wi64 (left - (a_Data.size : Int)) < 0)) (some (-1)) (some (wi64 (left - (a_Data.size : Int))))) := sem_eq (f := 121) (m := 0) rfl (by kernel_rfl)
theorem laws_szPageS_eq (a : List (Int × ByteArray)) (left : Int) :
    laws_szPageS a left = (
      sif (decide (wi64 (left - (a.length : Int)) < 0)) (some (-1)) <|
      laws_szPageS_l5 a (wi64 (left - (a.length : Int))) 0) := sem_eq (f := 38) (m := 0) rfl (by kernel_rfl)
theorem laws_szPageS_l5_eq (a : List (Int × ByteArray)) (left : Int) (i : Int) :
    laws_szPageS_l5 a left i = (
      sif (decide (i < (a.length : Int)))
       (sbind (idx a i) fun x1 =>
        sbind (laws_szPage x1.1 x1.2 left) fun r2 =>
        sif (decide (r2 < 0)) (some (-1)) (laws_szPageS_l5 a r2 (wi64 (i + 1)))) (some left)) := seml_eq (f := 38) (m := 0) (l := 5) (by kernel_rfl)
theorem laws_szPage_eq (a_Block : Int) (a_Data : ByteArray) (left : Int) :
    laws_szPage a_Block a_Data left = (
      sif (decide (wi64 (left - (a_Data.size : Int)) < 0)) (some (-1)) (some (wi64 (left - (a_Data.size : Int))))) := sem_eq (f := 83) (m := 0) rfl (by kernel_rfl)
theorem laws_szNamedNumbersS_eq (a : List (ByteArray × List Int × List Int)) (left : Int) :
    laws_szNamedNumbersS a left = (
      sif (decide (wi64 (left - (a.length : Int)) < 0)) (some (-1)) <|
      laws_szNamedNumbersS_l5 a (wi64 (left - (a.length : Int))) 0) := sem_eq (f := 52) (m := 0) rfl (by kernel_rfl)
theorem laws_szNamedNumbersS_l5_eq (a : List (ByteArray × List Int × List Int)) (left : Int) (i : Int) :
    laws_szNamedNumbersS_l5 a left i = (
      sif (decide (i < (a.length : Int)))
       (sbind (idx a i) fun x1 =>
        sbind (laws_szNamedNumbers x1.1 x1.2.1 x1.2.2 left) fun r2 =>
        sif (decide (r2 < 0)) (some (-1)) (laws_szNamedNumbersS_l5 a r2 (wi64 (i + 1)))) (some left)) := seml_eq (f := 52) (m := 0) (l := 5) (by kernel_rfl)
theorem laws_szNamedNumbers_eq (a_Name : ByteArray) (a_Value_Dims : List Int) (a_Value_Nums : List Int) (left : Int) :
    laws_szNamedNumbers a_Name a_Value_Dims a_Value_Nums left = (
      sif (decide (wi64 (left - (a_Name.size : Int)) < 0)) (some (-1)) <|
      sbind (laws_szNumbers a_Value_Dims a_Value_Nums (wi64 (left - (a_Name.size : Int)))) fun r1 =>
      sif (decide (r1 < 0)) (some (-1)) (some r1)) := sem_eq (f := 105) (m := 0) rfl (by kernel_rfl)
theorem laws_szNumbers_eq (a_Dims : List Int) (a_Nums : List Int) (left : Int) :
    laws_szNumbers a_Dims a_Nums left = (
      sbind (laws_szInt64S a_Dims left) fun r1 =>
      sif (decide (r1 < 0)) (some (-1)) <|
      sbind (laws_szInt64S a_Nums r1) fun r2 =>
      sif (decide (r2 < 0)) (some (-1)) (some r2)) := sem_eq (f := 135) (m := 0) rfl (by kernel_rfl)
theorem laws_szInt64S_eq (a : List Int) (left : Int) :
    laws_szInt64S a left = (
      sif (decide (wi64 (left - (a.length : Int)) < 0)) (some (-1)) (some (wi64 (left - (a.length : Int))))) := sem_eq (f := 156) (m := 0) rfl (by kernel_rfl)
theorem laws_toShell_eq (a_Store_Pager_Disk_Blocks : List ByteArray) (a_Store_Pager_Disk_Pending : List (Int × ByteArray)) (a_Store_Pager_Disk_Fuse : Int) (a_Store_Pager_Disk_Off : Bool) (a_Store_Pager_Super_Blocks : Int) (a_Store_Pager_Super_Log : Int) (a_Store_Pager_Super_Seq : Int) (a_Store_Pager_Super_Turn : Int) (a_Store_Pager_Seq : Int) (a_Store_Pager_At : Int) (a_Store_Pager_Logged : List (Int × ByteArray)) (a_Store_Pager_Dirty : List (Int × ByteArray)) (a_Vars : List (ByteArray × List Int × List Int)) :
    laws_toShell a_Store_Pager_Disk_Blocks a_Store_Pager_Disk_Pending a_Store_Pager_Disk_Fuse a_Store_Pager_Disk_Off a_Store_Pager_Super_Blocks a_Store_Pager_Super_Log a_Store_Pager_Super_Seq a_Store_Pager_Super_Turn a_Store_Pager_Seq a_Store_Pager_At a_Store_Pager_Logged a_Store_Pager_Dirty a_Vars = (
      sbind (laws_toStore a_Store_Pager_Disk_Blocks a_Store_Pager_Disk_Pending a_Store_Pager_Disk_Fuse a_Store_Pager_Disk_Off a_Store_Pager_Super_Blocks a_Store_Pager_Super_Log a_Store_Pager_Super_Seq a_Store_Pager_Super_Turn a_Store_Pager_Seq a_Store_Pager_At a_Store_Pager_Logged a_Store_Pager_Dirty) fun r1 =>
      sbind (laws_toNamedNumbersS a_Vars) fun r2 =>
      some (r1.1, r1.2.1, r1.2.2.1, r1.2.2.2.1, r1.2.2.2.2.1, r1.2.2.2.2.2.1, r1.2.2.2.2.2.2.1, r1.2.2.2.2.2.2.2.1, r1.2.2.2.2.2.2.2.2.1, r1.2.2.2.2.2.2.2.2.2.1, r1.2.2.2.2.2.2.2.2.2.2.1, r1.2.2.2.2.2.2.2.2.2.2.2, r2)) := sem_eq (f := 21) (m := 0) rfl (by kernel_rfl)
theorem laws_toStore_eq (a_Pager_Disk_Blocks : List ByteArray) (a_Pager_Disk_Pending : List (Int × ByteArray)) (a_Pager_Disk_Fuse : Int) (a_Pager_Disk_Off : Bool) (a_Pager_Super_Blocks : Int) (a_Pager_Super_Log : Int) (a_Pager_Super_Seq : Int) (a_Pager_Super_Turn : Int) (a_Pager_Seq : Int) (a_Pager_At : Int) (a_Pager_Logged : List (Int × ByteArray)) (a_Pager_Dirty : List (Int × ByteArray)) :
    laws_toStore a_Pager_Disk_Blocks a_Pager_Disk_Pending a_Pager_Disk_Fuse a_Pager_Disk_Off a_Pager_Super_Blocks a_Pager_Super_Log a_Pager_Super_Seq a_Pager_Super_Turn a_Pager_Seq a_Pager_At a_Pager_Logged a_Pager_Dirty = (
      sbind (laws_toPager a_Pager_Disk_Blocks a_Pager_Disk_Pending a_Pager_Disk_Fuse a_Pager_Disk_Off a_Pager_Super_Blocks a_Pager_Super_Log a_Pager_Super_Seq a_Pager_Super_Turn a_Pager_Seq a_Pager_At a_Pager_Logged a_Pager_Dirty) fun r1 =>
      some (r1.1, r1.2.1, r1.2.2.1, r1.2.2.2.1, r1.2.2.2.2.1, r1.2.2.2.2.2.1, r1.2.2.2.2.2.2.1, r1.2.2.2.2.2.2.2.1, r1.2.2.2.2.2.2.2.2.1, r1.2.2.2.2.2.2.2.2.2.1, r1.2.2.2.2.2.2.2.2.2.2.1, r1.2.2.2.2.2.2.2.2.2.2.2)) := sem_eq (f := 55) (m := 0) rfl (by kernel_rfl)
theorem laws_toPager_eq (a_Disk_Blocks : List ByteArray) (a_Disk_Pending : List (Int × ByteArray)) (a_Disk_Fuse : Int) (a_Disk_Off : Bool) (a_Super_Blocks : Int) (a_Super_Log : Int) (a_Super_Seq : Int) (a_Super_Turn : Int) (a_Seq : Int) (a_At : Int) (a_Logged : List (Int × ByteArray)) (a_Dirty : List (Int × ByteArray)) :
    laws_toPager a_Disk_Blocks a_Disk_Pending a_Disk_Fuse a_Disk_Off a_Super_Blocks a_Super_Log a_Super_Seq a_Super_Turn a_Seq a_At a_Logged a_Dirty = (
      sbind (laws_toDisk a_Disk_Blocks a_Disk_Pending a_Disk_Fuse a_Disk_Off) fun r1 =>
      sbind (laws_toSuper a_Super_Blocks a_Super_Log a_Super_Seq a_Super_Turn) fun r2 =>
      sbind (laws_toPageS a_Logged) fun r3 =>
      sbind (laws_toPageS a_Dirty) fun r4 =>
      some (r1.1, r1.2.1, r2.1, r2.2.1, r2.2.2.1, r2.2.2.2, a_Seq, a_At, r1.2.2.1, r1.2.2.2, r3, r4)) := sem_eq (f := 16) (m := 0) rfl (by kernel_rfl)
theorem laws_toDisk_eq (a_Blocks : List ByteArray) (a_Pending : List (Int × ByteArray)) (a_Fuse : Int) (a_Off : Bool) :
    laws_toDisk a_Blocks a_Pending a_Fuse a_Off = (
      sbind (laws_toStringS a_Blocks) fun r1 =>
      sbind (laws_toPutS a_Pending) fun r2 =>
      some (a_Fuse, a_Off, r1, r2)) := sem_eq (f := 43) (m := 0) rfl (by kernel_rfl)
theorem laws_toStringS_eq (a : List ByteArray) :
    laws_toStringS a = (
      sif (le3 0 (a.length : Int) (a.length : Int) && room a.length 16) (laws_toStringS_l3 a 0 (List.replicate a.length (bs [] : ByteArray))) (none)) := sem_eq (f := 92) (m := 0) rfl (by kernel_rfl)
theorem laws_toStringS_l3_eq (a : List ByteArray) (i : Int) (out : List ByteArray) :
    laws_toStringS_l3 a i out = (
      sif (decide (i < (a.length : Int)))
       (sbind (idx a i) fun x1 =>
        sif (lt3 0 i (out.length : Int)) (laws_toStringS_l3 a (wi64 (i + 1)) (out.set i.toNat x1)) (none)) (some out)) := seml_eq (f := 92) (m := 0) (l := 3) (by kernel_rfl)
theorem laws_toPutS_eq (a : List (Int × ByteArray)) :
    laws_toPutS a = (
      sif (le3 0 (a.length : Int) (a.length : Int) && room a.length 24) (laws_toPutS_l3 a 0 (List.replicate a.length ((0, bs []) : Int × ByteArray))) (none)) := sem_eq (f := 93) (m := 0) rfl (by kernel_rfl)
theorem laws_toPutS_l3_eq (a : List (Int × ByteArray)) (i : Int) (out : List (Int × ByteArray)) :
    laws_toPutS_l3 a i out = (
      sif (decide (i < (a.length : Int)))
       (sbind (idx a i) fun x1 =>
        sbind (laws_toPut x1.1 x1.2) fun r2 =>
        sif (lt3 0 i (out.length : Int)) (laws_toPutS_l3 a (wi64 (i + 1)) (out.set i.toNat (r2.1, r2.2))) (none)) (some out)) := seml_eq (f := 93) (m := 0) (l := 3) (by kernel_rfl)
theorem laws_toPut_eq (a_Block : Int) (a_Data : ByteArray) :
    laws_toPut a_Block a_Data = (
      some (a_Block, a_Data)) := sem_eq (f := 125) (m := 0) rfl (by kernel_rfl)
theorem laws_toSuper_eq (a_Blocks : Int) (a_Log : Int) (a_Seq : Int) (a_Turn : Int) :
    laws_toSuper a_Blocks a_Log a_Seq a_Turn = (
      some (a_Blocks, a_Log, a_Seq, a_Turn)) := sem_eq (f := 44) (m := 0) rfl (by kernel_rfl)
theorem laws_toPageS_eq (a : List (Int × ByteArray)) :
    laws_toPageS a = (
      sif (le3 0 (a.length : Int) (a.length : Int) && room a.length 24) (laws_toPageS_l3 a 0 (List.replicate a.length ((0, bs []) : Int × ByteArray))) (none)) := sem_eq (f := 45) (m := 0) rfl (by kernel_rfl)
theorem laws_toPageS_l3_eq (a : List (Int × ByteArray)) (i : Int) (out : List (Int × ByteArray)) :
    laws_toPageS_l3 a i out = (
      sif (decide (i < (a.length : Int)))
       (sbind (idx a i) fun x1 =>
        sbind (laws_toPage x1.1 x1.2) fun r2 =>
        sif (lt3 0 i (out.length : Int)) (laws_toPageS_l3 a (wi64 (i + 1)) (out.set i.toNat (r2.1, r2.2))) (none)) (some out)) := seml_eq (f := 45) (m := 0) (l := 3) (by kernel_rfl)
theorem laws_toPage_eq (a_Block : Int) (a_Data : ByteArray) :
    laws_toPage a_Block a_Data = (
      some (a_Block, a_Data)) := sem_eq (f := 94) (m := 0) rfl (by kernel_rfl)
theorem laws_toNamedNumbersS_eq (a : List (ByteArray × List Int × List Int)) :
    laws_toNamedNumbersS a = (
      sif (le3 0 (a.length : Int) (a.length : Int) && room a.length 64)
       (laws_toNamedNumbersS_l3 a 0 (List.replicate a.length ((bs [], ([] : List Int), ([] : List Int)) : ByteArray × List Int × List Int))) (none)) := sem_eq (f := 56) (m := 0) rfl (by kernel_rfl)
theorem laws_toNamedNumbersS_l3_eq (a : List (ByteArray × List Int × List Int)) (i : Int) (out : List (ByteArray × List Int × List Int)) :
    laws_toNamedNumbersS_l3 a i out = (
      sif (decide (i < (a.length : Int)))
       (sbind (idx a i) fun x1 =>
        sbind (laws_toNamedNumbers x1.1 x1.2.1 x1.2.2) fun r2 =>
        sif (lt3 0 i (out.length : Int)) (laws_toNamedNumbersS_l3 a (wi64 (i + 1)) (out.set i.toNat (r2.1, r2.2.1, r2.2.2))) (none)) (some out)) := seml_eq (f := 56) (m := 0) (l := 3) (by kernel_rfl)
theorem laws_toNamedNumbers_eq (a_Name : ByteArray) (a_Value_Dims : List Int) (a_Value_Nums : List Int) :
    laws_toNamedNumbers a_Name a_Value_Dims a_Value_Nums = (
      sbind (laws_toNumbers a_Value_Dims a_Value_Nums) fun r1 =>
      some (a_Name, r1.1, r1.2)) := sem_eq (f := 109) (m := 0) rfl (by kernel_rfl)
theorem laws_toNumbers_eq (a_Dims : List Int) (a_Nums : List Int) :
    laws_toNumbers a_Dims a_Nums = (
      sbind (laws_toInt64S a_Dims) fun r1 =>
      sbind (laws_toInt64S a_Nums) fun r2 =>
      some (r1, r2)) := sem_eq (f := 136) (m := 0) rfl (by kernel_rfl)
theorem laws_toInt64S_eq (a : List Int) :
    laws_toInt64S a = (
      sif (le3 0 (a.length : Int) (a.length : Int) && room a.length 8) (laws_toInt64S_l3 a 0 (List.replicate a.length (0 : Int))) (none)) := sem_eq (f := 157) (m := 0) rfl (by kernel_rfl)
theorem laws_toInt64S_l3_eq (a : List Int) (i : Int) (out : List Int) :
    laws_toInt64S_l3 a i out = (
      sif (decide (i < (a.length : Int)))
       (sbind (idx a i) fun x1 =>
        sif (lt3 0 i (out.length : Int)) (laws_toInt64S_l3 a (wi64 (i + 1)) (out.set i.toNat x1)) (none)) (some out)) := seml_eq (f := 157) (m := 0) (l := 3) (by kernel_rfl)
theorem spec_SameShell_eq (a_Store_Pager_Disk_Blocks : List ByteArray) (a_Store_Pager_Disk_Pending : List (Int × ByteArray)) (a_Store_Pager_Disk_Fuse : Int) (a_Store_Pager_Disk_Off : Bool) (a_Store_Pager_Super_Blocks : Int) (a_Store_Pager_Super_Log : Int) (a_Store_Pager_Super_Seq : Int) (a_Store_Pager_Super_Turn : Int) (a_Store_Pager_Seq : Int) (a_Store_Pager_At : Int) (a_Store_Pager_Logged : List (Int × ByteArray)) (a_Store_Pager_Dirty : List (Int × ByteArray)) (a_Vars : List (ByteArray × List Int × List Int)) (b_Store_Pager_Disk_Blocks : List ByteArray) (b_Store_Pager_Disk_Pending : List (Int × ByteArray)) (b_Store_Pager_Disk_Fuse : Int) (b_Store_Pager_Disk_Off : Bool) (b_Store_Pager_Super_Blocks : Int) (b_Store_Pager_Super_Log : Int) (b_Store_Pager_Super_Seq : Int) (b_Store_Pager_Super_Turn : Int) (b_Store_Pager_Seq : Int) (b_Store_Pager_At : Int) (b_Store_Pager_Logged : List (Int × ByteArray)) (b_Store_Pager_Dirty : List (Int × ByteArray)) (b_Vars : List (ByteArray × List Int × List Int)) :
    spec_SameShell a_Store_Pager_Disk_Blocks a_Store_Pager_Disk_Pending a_Store_Pager_Disk_Fuse a_Store_Pager_Disk_Off a_Store_Pager_Super_Blocks a_Store_Pager_Super_Log a_Store_Pager_Super_Seq a_Store_Pager_Super_Turn a_Store_Pager_Seq a_Store_Pager_At a_Store_Pager_Logged a_Store_Pager_Dirty a_Vars b_Store_Pager_Disk_Blocks b_Store_Pager_Disk_Pending b_Store_Pager_Disk_Fuse b_Store_Pager_Disk_Off b_Store_Pager_Super_Blocks b_Store_Pager_Super_Log b_Store_Pager_Super_Seq b_Store_Pager_Super_Turn b_Store_Pager_Seq b_Store_Pager_At b_Store_Pager_Logged b_Store_Pager_Dirty b_Vars = (
      sbind (spec_SamePager a_Store_Pager_Disk_Blocks a_Store_Pager_Disk_Pending a_Store_Pager_Disk_Fuse a_Store_Pager_Disk_Off a_Store_Pager_Super_Blocks a_Store_Pager_Super_Log a_Store_Pager_Super_Seq a_Store_Pager_Super_Turn a_Store_Pager_Seq a_Store_Pager_At a_Store_Pager_Logged a_Store_Pager_Dirty b_Store_Pager_Disk_Blocks b_Store_Pager_Disk_Pending b_Store_Pager_Disk_Fuse b_Store_Pager_Disk_Off b_Store_Pager_Super_Blocks b_Store_Pager_Super_Log b_Store_Pager_Super_Seq b_Store_Pager_Super_Turn b_Store_Pager_Seq b_Store_Pager_At b_Store_Pager_Logged b_Store_Pager_Dirty) fun r1 =>
      sif (!r1) (some false) <|
      sif (((a_Vars.length : Int) != (b_Vars.length : Int))) (some false) <|
      spec_SameShell_l4 0 a_Store_Pager_Disk_Blocks a_Store_Pager_Disk_Pending a_Store_Pager_Disk_Fuse a_Store_Pager_Disk_Off a_Store_Pager_Super_Blocks a_Store_Pager_Super_Log a_Store_Pager_Super_Seq a_Store_Pager_Super_Turn a_Store_Pager_Seq a_Store_Pager_At a_Store_Pager_Logged a_Store_Pager_Dirty a_Vars b_Store_Pager_Disk_Blocks b_Store_Pager_Disk_Pending b_Store_Pager_Disk_Fuse b_Store_Pager_Disk_Off b_Store_Pager_Super_Blocks b_Store_Pager_Super_Log b_Store_Pager_Super_Seq b_Store_Pager_Super_Turn b_Store_Pager_Seq b_Store_Pager_At b_Store_Pager_Logged b_Store_Pager_Dirty b_Vars) := sem_eq (f := 20) (m := 0) rfl (by kernel_rfl)
theorem spec_SameShell_l4_eq (i : Int) (a_Store_Pager_Disk_Blocks : List ByteArray) (a_Store_Pager_Disk_Pending : List (Int × ByteArray)) (a_Store_Pager_Disk_Fuse : Int) (a_Store_Pager_Disk_Off : Bool) (a_Store_Pager_Super_Blocks : Int) (a_Store_Pager_Super_Log : Int) (a_Store_Pager_Super_Seq : Int) (a_Store_Pager_Super_Turn : Int) (a_Store_Pager_Seq : Int) (a_Store_Pager_At : Int) (a_Store_Pager_Logged : List (Int × ByteArray)) (a_Store_Pager_Dirty : List (Int × ByteArray)) (a_Vars : List (ByteArray × List Int × List Int)) (b_Store_Pager_Disk_Blocks : List ByteArray) (b_Store_Pager_Disk_Pending : List (Int × ByteArray)) (b_Store_Pager_Disk_Fuse : Int) (b_Store_Pager_Disk_Off : Bool) (b_Store_Pager_Super_Blocks : Int) (b_Store_Pager_Super_Log : Int) (b_Store_Pager_Super_Seq : Int) (b_Store_Pager_Super_Turn : Int) (b_Store_Pager_Seq : Int) (b_Store_Pager_At : Int) (b_Store_Pager_Logged : List (Int × ByteArray)) (b_Store_Pager_Dirty : List (Int × ByteArray)) (b_Vars : List (ByteArray × List Int × List Int)) :
    spec_SameShell_l4 i a_Store_Pager_Disk_Blocks a_Store_Pager_Disk_Pending a_Store_Pager_Disk_Fuse a_Store_Pager_Disk_Off a_Store_Pager_Super_Blocks a_Store_Pager_Super_Log a_Store_Pager_Super_Seq a_Store_Pager_Super_Turn a_Store_Pager_Seq a_Store_Pager_At a_Store_Pager_Logged a_Store_Pager_Dirty a_Vars b_Store_Pager_Disk_Blocks b_Store_Pager_Disk_Pending b_Store_Pager_Disk_Fuse b_Store_Pager_Disk_Off b_Store_Pager_Super_Blocks b_Store_Pager_Super_Log b_Store_Pager_Super_Seq b_Store_Pager_Super_Turn b_Store_Pager_Seq b_Store_Pager_At b_Store_Pager_Logged b_Store_Pager_Dirty b_Vars = (
      sif (decide (i < (a_Vars.length : Int)))
       (sbind (idx a_Vars i) fun x1 =>
        sbind (idx b_Vars i) fun x2 =>
        sif (!seq x1.1 x2.1) (some false) <|
        sbind (idx a_Vars i) fun x3 =>
        sbind (idx b_Vars i) fun x4 =>
        sbind (spec_SameNumbers x3.2.1 x3.2.2 x4.2.1 x4.2.2) fun r5 =>
        sif (!r5) (some false) <|
        spec_SameShell_l4 (wi64 (i + 1)) a_Store_Pager_Disk_Blocks a_Store_Pager_Disk_Pending a_Store_Pager_Disk_Fuse a_Store_Pager_Disk_Off a_Store_Pager_Super_Blocks a_Store_Pager_Super_Log a_Store_Pager_Super_Seq a_Store_Pager_Super_Turn a_Store_Pager_Seq a_Store_Pager_At a_Store_Pager_Logged a_Store_Pager_Dirty a_Vars b_Store_Pager_Disk_Blocks b_Store_Pager_Disk_Pending b_Store_Pager_Disk_Fuse b_Store_Pager_Disk_Off b_Store_Pager_Super_Blocks b_Store_Pager_Super_Log b_Store_Pager_Super_Seq b_Store_Pager_Super_Turn b_Store_Pager_Seq b_Store_Pager_At b_Store_Pager_Logged b_Store_Pager_Dirty b_Vars) (some true)) := seml_eq (f := 20) (m := 0) (l := 4) (by kernel_rfl)
theorem spec_SamePager_eq (a_Disk_Blocks : List ByteArray) (a_Disk_Pending : List (Int × ByteArray)) (a_Disk_Fuse : Int) (a_Disk_Off : Bool) (a_Super_Blocks : Int) (a_Super_Log : Int) (a_Super_Seq : Int) (a_Super_Turn : Int) (a_Seq : Int) (a_At : Int) (a_Logged : List (Int × ByteArray)) (a_Dirty : List (Int × ByteArray)) (b_Disk_Blocks : List ByteArray) (b_Disk_Pending : List (Int × ByteArray)) (b_Disk_Fuse : Int) (b_Disk_Off : Bool) (b_Super_Blocks : Int) (b_Super_Log : Int) (b_Super_Seq : Int) (b_Super_Turn : Int) (b_Seq : Int) (b_At : Int) (b_Logged : List (Int × ByteArray)) (b_Dirty : List (Int × ByteArray)) :
    spec_SamePager a_Disk_Blocks a_Disk_Pending a_Disk_Fuse a_Disk_Off a_Super_Blocks a_Super_Log a_Super_Seq a_Super_Turn a_Seq a_At a_Logged a_Dirty b_Disk_Blocks b_Disk_Pending b_Disk_Fuse b_Disk_Off b_Super_Blocks b_Super_Log b_Super_Seq b_Super_Turn b_Seq b_At b_Logged b_Dirty = (
      sbind (spec_SameDisk a_Disk_Blocks a_Disk_Pending a_Disk_Fuse a_Disk_Off b_Disk_Blocks b_Disk_Pending b_Disk_Fuse b_Disk_Off) fun r1 =>
      sif (r1)
       (sif (((a_Super_Blocks == b_Super_Blocks) && ((a_Super_Log == b_Super_Log) && ((a_Super_Seq == b_Super_Seq) && (a_Super_Turn == b_Super_Turn)))))
         (sif ((a_Seq == b_Seq))
           (sif ((a_At == b_At))
             (sbind (spec_l12SamePages a_Logged b_Logged) fun r2 =>
              sif (r2)
               (sbind (spec_l12SamePages a_Dirty b_Dirty) fun r3 =>
                some r3) (some false)) (some false)) (some false)) (some false)) (some false)) := sem_eq (f := 53) (m := 0) rfl (by kernel_rfl)
theorem spec_SameDisk_eq (a_Blocks : List ByteArray) (a_Pending : List (Int × ByteArray)) (a_Fuse : Int) (a_Off : Bool) (b_Blocks : List ByteArray) (b_Pending : List (Int × ByteArray)) (b_Fuse : Int) (b_Off : Bool) :
    spec_SameDisk a_Blocks a_Pending a_Fuse a_Off b_Blocks b_Pending b_Fuse b_Off = (
      sif (((a_Blocks.length : Int) != (b_Blocks.length : Int))) (some false) <|
      sif (((a_Pending.length : Int) != (b_Pending.length : Int))) (some false) <|
      sif ((a_Fuse != b_Fuse)) (some false) <|
      sif (!(a_Off == b_Off)) (some false) <|
      spec_SameDisk_l4 0 a_Blocks a_Pending a_Fuse a_Off b_Blocks b_Pending b_Fuse b_Off) := sem_eq (f := 106) (m := 0) rfl (by kernel_rfl)
theorem spec_SameDisk_l4_eq (i : Int) (a_Blocks : List ByteArray) (a_Pending : List (Int × ByteArray)) (a_Fuse : Int) (a_Off : Bool) (b_Blocks : List ByteArray) (b_Pending : List (Int × ByteArray)) (b_Fuse : Int) (b_Off : Bool) :
    spec_SameDisk_l4 i a_Blocks a_Pending a_Fuse a_Off b_Blocks b_Pending b_Fuse b_Off = (
      sif (decide (i < (a_Blocks.length : Int)))
       (sbind (idx a_Blocks i) fun x1 =>
        sbind (idx b_Blocks i) fun x2 =>
        sif (!seq x1 x2) (some false) <|
        spec_SameDisk_l4 (wi64 (i + 1)) a_Blocks a_Pending a_Fuse a_Off b_Blocks b_Pending b_Fuse b_Off) <|
      spec_SameDisk_l9 0 a_Blocks a_Pending a_Fuse a_Off b_Blocks b_Pending b_Fuse b_Off) := seml_eq (f := 106) (m := 0) (l := 4) (by kernel_rfl)
theorem spec_SameDisk_l9_eq (i : Int) (a_Blocks : List ByteArray) (a_Pending : List (Int × ByteArray)) (a_Fuse : Int) (a_Off : Bool) (b_Blocks : List ByteArray) (b_Pending : List (Int × ByteArray)) (b_Fuse : Int) (b_Off : Bool) :
    spec_SameDisk_l9 i a_Blocks a_Pending a_Fuse a_Off b_Blocks b_Pending b_Fuse b_Off = (
      sif (decide (i < (a_Pending.length : Int)))
       (sbind (idx a_Pending i) fun x1 =>
        sbind (idx b_Pending i) fun x2 =>
        sif (!((x1.1 == x2.1) && seq x1.2 x2.2)) (some false) <|
        spec_SameDisk_l9 (wi64 (i + 1)) a_Blocks a_Pending a_Fuse a_Off b_Blocks b_Pending b_Fuse b_Off) (some true)) := seml_eq (f := 106) (m := 0) (l := 9) (by kernel_rfl)
theorem spec_l12SamePages_eq (a : List (Int × ByteArray)) (b : List (Int × ByteArray)) :
    spec_l12SamePages a b = (
      sif (((a.length : Int) != (b.length : Int))) (some false) (spec_l12SamePages_l4 a b 0)) := sem_eq (f := 107) (m := 0) rfl (by kernel_rfl)
theorem spec_l12SamePages_l4_eq (a : List (Int × ByteArray)) (b : List (Int × ByteArray)) (i : Int) :
    spec_l12SamePages_l4 a b i = (
      sif (decide (i < (a.length : Int)))
       (sbind (idx a i) fun x1 =>
        sbind (idx b i) fun x2 =>
        sif (!((x1.1 == x2.1) && seq x1.2 x2.2)) (some false) (spec_l12SamePages_l4 a b (wi64 (i + 1)))) (some true)) := seml_eq (f := 107) (m := 0) (l := 4) (by kernel_rfl)
theorem spec_SameNumbers_eq (a_Dims : List Int) (a_Nums : List Int) (b_Dims : List Int) (b_Nums : List Int) :
    spec_SameNumbers a_Dims a_Nums b_Dims b_Nums = (
      sbind (spec_l00Same a_Dims b_Dims) fun r1 =>
      sif (r1)
       (sbind (spec_l00Same a_Nums b_Nums) fun r2 =>
        some r2) (some false)) := sem_eq (f := 54) (m := 0) rfl (by kernel_rfl)
theorem spec_l00Same_eq (a : List Int) (b : List Int) :
    spec_l00Same a b = (
      sif (((a.length : Int) != (b.length : Int))) (some false) (spec_l00Same_l4 a b 0)) := sem_eq (f := 108) (m := 0) rfl (by kernel_rfl)
theorem spec_l00Same_l4_eq (a : List Int) (b : List Int) (i : Int) :
    spec_l00Same_l4 a b i = (
      sif (decide (i < (a.length : Int)))
       (sbind (idx a i) fun x1 =>
        sbind (idx b i) fun x2 =>
        sif ((x1 != x2)) (some false) (spec_l00Same_l4 a b (wi64 (i + 1)))) (some true)) := seml_eq (f := 108) (m := 0) (l := 4) (by kernel_rfl)
theorem impl_SameShell_eq (a_Store_Pager_Disk_Blocks : List ByteArray) (a_Store_Pager_Disk_Pending : List (Int × ByteArray)) (a_Store_Pager_Disk_Fuse : Int) (a_Store_Pager_Disk_Off : Bool) (a_Store_Pager_Super_Blocks : Int) (a_Store_Pager_Super_Log : Int) (a_Store_Pager_Super_Seq : Int) (a_Store_Pager_Super_Turn : Int) (a_Store_Pager_Seq : Int) (a_Store_Pager_At : Int) (a_Store_Pager_Logged : List (Int × ByteArray)) (a_Store_Pager_Dirty : List (Int × ByteArray)) (a_Vars : List (ByteArray × List Int × List Int)) (b_Store_Pager_Disk_Blocks : List ByteArray) (b_Store_Pager_Disk_Pending : List (Int × ByteArray)) (b_Store_Pager_Disk_Fuse : Int) (b_Store_Pager_Disk_Off : Bool) (b_Store_Pager_Super_Blocks : Int) (b_Store_Pager_Super_Log : Int) (b_Store_Pager_Super_Seq : Int) (b_Store_Pager_Super_Turn : Int) (b_Store_Pager_Seq : Int) (b_Store_Pager_At : Int) (b_Store_Pager_Logged : List (Int × ByteArray)) (b_Store_Pager_Dirty : List (Int × ByteArray)) (b_Vars : List (ByteArray × List Int × List Int)) :
    impl_SameShell a_Store_Pager_Disk_Blocks a_Store_Pager_Disk_Pending a_Store_Pager_Disk_Fuse a_Store_Pager_Disk_Off a_Store_Pager_Super_Blocks a_Store_Pager_Super_Log a_Store_Pager_Super_Seq a_Store_Pager_Super_Turn a_Store_Pager_Seq a_Store_Pager_At a_Store_Pager_Logged a_Store_Pager_Dirty a_Vars b_Store_Pager_Disk_Blocks b_Store_Pager_Disk_Pending b_Store_Pager_Disk_Fuse b_Store_Pager_Disk_Off b_Store_Pager_Super_Blocks b_Store_Pager_Super_Log b_Store_Pager_Super_Seq b_Store_Pager_Super_Turn b_Store_Pager_Seq b_Store_Pager_At b_Store_Pager_Logged b_Store_Pager_Dirty b_Vars = (
      sbind (impl_SamePager a_Store_Pager_Disk_Blocks a_Store_Pager_Disk_Pending a_Store_Pager_Disk_Fuse a_Store_Pager_Disk_Off a_Store_Pager_Super_Blocks a_Store_Pager_Super_Log a_Store_Pager_Super_Seq a_Store_Pager_Super_Turn a_Store_Pager_Seq a_Store_Pager_At a_Store_Pager_Logged a_Store_Pager_Dirty b_Store_Pager_Disk_Blocks b_Store_Pager_Disk_Pending b_Store_Pager_Disk_Fuse b_Store_Pager_Disk_Off b_Store_Pager_Super_Blocks b_Store_Pager_Super_Log b_Store_Pager_Super_Seq b_Store_Pager_Super_Turn b_Store_Pager_Seq b_Store_Pager_At b_Store_Pager_Logged b_Store_Pager_Dirty) fun r1 =>
      sif (r1)
       (sbind (slices_EqualFunc_simpl_NamedNumbers_simpl_NamedNumbers_impl_NamedNumbers_impl_NamedNumbers_dd_sameNamed a_Vars b_Vars) fun r2 =>
        some r2) (some false)) := sem_eq (f := 22) (m := 0) rfl (by kernel_rfl)
theorem impl_SamePager_eq (a_Disk_Blocks : List ByteArray) (a_Disk_Pending : List (Int × ByteArray)) (a_Disk_Fuse : Int) (a_Disk_Off : Bool) (a_Super_Blocks : Int) (a_Super_Log : Int) (a_Super_Seq : Int) (a_Super_Turn : Int) (a_Seq : Int) (a_At : Int) (a_Logged : List (Int × ByteArray)) (a_Dirty : List (Int × ByteArray)) (b_Disk_Blocks : List ByteArray) (b_Disk_Pending : List (Int × ByteArray)) (b_Disk_Fuse : Int) (b_Disk_Off : Bool) (b_Super_Blocks : Int) (b_Super_Log : Int) (b_Super_Seq : Int) (b_Super_Turn : Int) (b_Seq : Int) (b_At : Int) (b_Logged : List (Int × ByteArray)) (b_Dirty : List (Int × ByteArray)) :
    impl_SamePager a_Disk_Blocks a_Disk_Pending a_Disk_Fuse a_Disk_Off a_Super_Blocks a_Super_Log a_Super_Seq a_Super_Turn a_Seq a_At a_Logged a_Dirty b_Disk_Blocks b_Disk_Pending b_Disk_Fuse b_Disk_Off b_Super_Blocks b_Super_Log b_Super_Seq b_Super_Turn b_Seq b_At b_Logged b_Dirty = (
      sbind (impl_SameDisk a_Disk_Blocks a_Disk_Pending a_Disk_Fuse a_Disk_Off b_Disk_Blocks b_Disk_Pending b_Disk_Fuse b_Disk_Off) fun r1 =>
      sif (r1)
       (sif (((a_Super_Blocks == b_Super_Blocks) && ((a_Super_Log == b_Super_Log) && ((a_Super_Seq == b_Super_Seq) && (a_Super_Turn == b_Super_Turn)))))
         (sif ((a_Seq == b_Seq))
           (sif ((a_At == b_At))
             (sbind (slices_Equal_simpl_Page_impl_Page a_Logged b_Logged) fun r2 =>
              sif (r2)
               (sbind (slices_Equal_simpl_Page_impl_Page a_Dirty b_Dirty) fun r3 =>
                some r3) (some false)) (some false)) (some false)) (some false)) (some false)) := sem_eq (f := 57) (m := 0) rfl (by kernel_rfl)
theorem impl_SameDisk_eq (a_Blocks : List ByteArray) (a_Pending : List (Int × ByteArray)) (a_Fuse : Int) (a_Off : Bool) (b_Blocks : List ByteArray) (b_Pending : List (Int × ByteArray)) (b_Fuse : Int) (b_Off : Bool) :
    impl_SameDisk a_Blocks a_Pending a_Fuse a_Off b_Blocks b_Pending b_Fuse b_Off = (
      sbind (slices_Equal_sstring_string a_Blocks b_Blocks) fun r1 =>
      sif (r1)
       (sbind (slices_Equal_simpl_Put_impl_Put a_Pending b_Pending) fun r2 =>
        sif (r2) (sif ((a_Fuse == b_Fuse)) (some (a_Off == b_Off)) (some false)) (some false)) (some false)) := sem_eq (f := 110) (m := 0) rfl (by kernel_rfl)
theorem slices_Equal_sstring_string_eq (s1 : List ByteArray) (s2 : List ByteArray) :
    slices_Equal_sstring_string s1 s2 = (
      sif (((s1.length : Int) != (s2.length : Int))) (some false) <|
      slices_Equal_sstring_string_l4 s1 s2 (s1.length : Int) 0) := sem_eq (f := 137) (m := 0) rfl (by kernel_rfl)
theorem slices_Equal_sstring_string_l4_eq (s1 : List ByteArray) (s2 : List ByteArray) (t12 : Int) (t13 : Int) :
    slices_Equal_sstring_string_l4 s1 s2 t12 t13 = (
      sif (decide (t13 < t12))
       (sbind (idx s1 t13) fun x1 =>
        sbind (idx s2 t13) fun x2 =>
        sif (!seq x1 x2) (some false) <|
        slices_Equal_sstring_string_l4 s1 s2 t12 (wi64 (t13 + 1))) (some true)) := seml_eq (f := 137) (m := 0) (l := 4) (by kernel_rfl)
theorem slices_Equal_simpl_Put_impl_Put_eq (s1 : List (Int × ByteArray)) (s2 : List (Int × ByteArray)) :
    slices_Equal_simpl_Put_impl_Put s1 s2 = (
      sif (((s1.length : Int) != (s2.length : Int))) (some false) <|
      slices_Equal_simpl_Put_impl_Put_l4 s1 s2 (s1.length : Int) 0) := sem_eq (f := 138) (m := 0) rfl (by kernel_rfl)
theorem slices_Equal_simpl_Put_impl_Put_l4_eq (s1 : List (Int × ByteArray)) (s2 : List (Int × ByteArray)) (t12 : Int) (t13 : Int) :
    slices_Equal_simpl_Put_impl_Put_l4 s1 s2 t12 t13 = (
      sif (decide (t13 < t12))
       (sbind (idx s1 t13) fun x1 =>
        sbind (idx s2 t13) fun x2 =>
        sif (!((x1.1 == x2.1) && seq x1.2 x2.2)) (some false) <|
        slices_Equal_simpl_Put_impl_Put_l4 s1 s2 t12 (wi64 (t13 + 1))) (some true)) := seml_eq (f := 138) (m := 0) (l := 4) (by kernel_rfl)
theorem slices_Equal_simpl_Page_impl_Page_eq (s1 : List (Int × ByteArray)) (s2 : List (Int × ByteArray)) :
    slices_Equal_simpl_Page_impl_Page s1 s2 = (
      sif (((s1.length : Int) != (s2.length : Int))) (some false) <|
      slices_Equal_simpl_Page_impl_Page_l4 s1 s2 (s1.length : Int) 0) := sem_eq (f := 111) (m := 0) rfl (by kernel_rfl)
theorem slices_Equal_simpl_Page_impl_Page_l4_eq (s1 : List (Int × ByteArray)) (s2 : List (Int × ByteArray)) (t12 : Int) (t13 : Int) :
    slices_Equal_simpl_Page_impl_Page_l4 s1 s2 t12 t13 = (
      sif (decide (t13 < t12))
       (sbind (idx s1 t13) fun x1 =>
        sbind (idx s2 t13) fun x2 =>
        sif (!((x1.1 == x2.1) && seq x1.2 x2.2)) (some false) <|
        slices_Equal_simpl_Page_impl_Page_l4 s1 s2 t12 (wi64 (t13 + 1))) (some true)) := seml_eq (f := 111) (m := 0) (l := 4) (by kernel_rfl)
theorem slices_EqualFunc_simpl_NamedNumbers_simpl_NamedNumbers_impl_NamedNumbers_impl_NamedNumbers_dd_sameNamed_eq (s1 : List (ByteArray × List Int × List Int)) (s2 : List (ByteArray × List Int × List Int)) :
    slices_EqualFunc_simpl_NamedNumbers_simpl_NamedNumbers_impl_NamedNumbers_impl_NamedNumbers_dd_sameNamed s1 s2 = (
      sif (((s1.length : Int) != (s2.length : Int))) (some false) <|
      slices_EqualFunc_simpl_NamedNumbers_simpl_NamedNumbers_impl_NamedNumbers_impl_NamedNumbers_dd_sameNamed_l4 s2 s1 (s1.length : Int) 0) := sem_eq (f := 58) (m := 0) rfl (by kernel_rfl)
theorem slices_EqualFunc_simpl_NamedNumbers_simpl_NamedNumbers_impl_NamedNumbers_impl_NamedNumbers_dd_sameNamed_l4_eq (s2 : List (ByteArray × List Int × List Int)) (t15 : List (ByteArray × List Int × List Int)) (t16 : Int) (t17 : Int) :
    slices_EqualFunc_simpl_NamedNumbers_simpl_NamedNumbers_impl_NamedNumbers_impl_NamedNumbers_dd_sameNamed_l4 s2 t15 t16 t17 = (
      sif (decide (t17 < t16))
       (sbind (idx t15 t17) fun x1 =>
        sbind (idx s2 t17) fun x2 =>
        sbind (impl_sameNamed x1.1 x1.2.1 x1.2.2 x2.1 x2.2.1 x2.2.2) fun r3 =>
        sif (!r3) (some false) <|
        slices_EqualFunc_simpl_NamedNumbers_simpl_NamedNumbers_impl_NamedNumbers_impl_NamedNumbers_dd_sameNamed_l4 s2 t15 t16 (wi64 (t17 + 1))) (some true)) := seml_eq (f := 58) (m := 0) (l := 4) (by kernel_rfl)
theorem impl_sameNamed_eq (a_Name : ByteArray) (a_Value_Dims : List Int) (a_Value_Nums : List Int) (b_Name : ByteArray) (b_Value_Dims : List Int) (b_Value_Nums : List Int) :
    impl_sameNamed a_Name a_Value_Dims a_Value_Nums b_Name b_Value_Dims b_Value_Nums = (
      sif (seq a_Name b_Name)
       (sbind (impl_SameNumbers a_Value_Dims a_Value_Nums b_Value_Dims b_Value_Nums) fun r1 =>
        some r1) (some false)) := sem_eq (f := 59) (m := 0) rfl (by kernel_rfl)
theorem impl_SameNumbers_eq (a_Dims : List Int) (a_Nums : List Int) (b_Dims : List Int) (b_Nums : List Int) :
    impl_SameNumbers a_Dims a_Nums b_Dims b_Nums = (
      sbind (slices_Equal_sint64_int64 a_Dims b_Dims) fun r1 =>
      sif (r1)
       (sbind (slices_Equal_sint64_int64 a_Nums b_Nums) fun r2 =>
        some r2) (some false)) := sem_eq (f := 112) (m := 0) rfl (by kernel_rfl)
theorem slices_Equal_sint64_int64_eq (s1 : List Int) (s2 : List Int) :
    slices_Equal_sint64_int64 s1 s2 = (
      sif (((s1.length : Int) != (s2.length : Int))) (some false) <|
      slices_Equal_sint64_int64_l4 s1 s2 (s1.length : Int) 0) := sem_eq (f := 139) (m := 0) rfl (by kernel_rfl)
theorem slices_Equal_sint64_int64_l4_eq (s1 : List Int) (s2 : List Int) (t12 : Int) (t13 : Int) :
    slices_Equal_sint64_int64_l4 s1 s2 t12 t13 = (
      sif (decide (t13 < t12))
       (sbind (idx s1 t13) fun x1 =>
        sbind (idx s2 t13) fun x2 =>
        sif ((x1 != x2)) (some false) <|
        slices_Equal_sint64_int64_l4 s1 s2 t12 (wi64 (t13 + 1))) (some true)) := seml_eq (f := 139) (m := 0) (l := 4) (by kernel_rfl)
theorem laws_eqShell_eq (a_Store_Pager_Disk_Blocks : List ByteArray) (a_Store_Pager_Disk_Pending : List (Int × ByteArray)) (a_Store_Pager_Disk_Fuse : Int) (a_Store_Pager_Disk_Off : Bool) (a_Store_Pager_Super_Blocks : Int) (a_Store_Pager_Super_Log : Int) (a_Store_Pager_Super_Seq : Int) (a_Store_Pager_Super_Turn : Int) (a_Store_Pager_Seq : Int) (a_Store_Pager_At : Int) (a_Store_Pager_Logged : List (Int × ByteArray)) (a_Store_Pager_Dirty : List (Int × ByteArray)) (a_Vars : List (ByteArray × List Int × List Int)) (b_Store_Pager_Disk_Blocks : List ByteArray) (b_Store_Pager_Disk_Pending : List (Int × ByteArray)) (b_Store_Pager_Disk_Fuse : Int) (b_Store_Pager_Disk_Off : Bool) (b_Store_Pager_Super_Blocks : Int) (b_Store_Pager_Super_Log : Int) (b_Store_Pager_Super_Seq : Int) (b_Store_Pager_Super_Turn : Int) (b_Store_Pager_Seq : Int) (b_Store_Pager_At : Int) (b_Store_Pager_Logged : List (Int × ByteArray)) (b_Store_Pager_Dirty : List (Int × ByteArray)) (b_Vars : List (ByteArray × List Int × List Int)) :
    laws_eqShell a_Store_Pager_Disk_Blocks a_Store_Pager_Disk_Pending a_Store_Pager_Disk_Fuse a_Store_Pager_Disk_Off a_Store_Pager_Super_Blocks a_Store_Pager_Super_Log a_Store_Pager_Super_Seq a_Store_Pager_Super_Turn a_Store_Pager_Seq a_Store_Pager_At a_Store_Pager_Logged a_Store_Pager_Dirty a_Vars b_Store_Pager_Disk_Blocks b_Store_Pager_Disk_Pending b_Store_Pager_Disk_Fuse b_Store_Pager_Disk_Off b_Store_Pager_Super_Blocks b_Store_Pager_Super_Log b_Store_Pager_Super_Seq b_Store_Pager_Super_Turn b_Store_Pager_Seq b_Store_Pager_At b_Store_Pager_Logged b_Store_Pager_Dirty b_Vars = (
      sbind (laws_eqStore a_Store_Pager_Disk_Blocks a_Store_Pager_Disk_Pending a_Store_Pager_Disk_Fuse a_Store_Pager_Disk_Off a_Store_Pager_Super_Blocks a_Store_Pager_Super_Log a_Store_Pager_Super_Seq a_Store_Pager_Super_Turn a_Store_Pager_Seq a_Store_Pager_At a_Store_Pager_Logged a_Store_Pager_Dirty b_Store_Pager_Disk_Blocks b_Store_Pager_Disk_Pending b_Store_Pager_Disk_Fuse b_Store_Pager_Disk_Off b_Store_Pager_Super_Blocks b_Store_Pager_Super_Log b_Store_Pager_Super_Seq b_Store_Pager_Super_Turn b_Store_Pager_Seq b_Store_Pager_At b_Store_Pager_Logged b_Store_Pager_Dirty) fun r1 =>
      sif (!r1) (some false) <|
      sbind (laws_eqNamedNumbersS a_Vars b_Vars) fun r2 =>
      sif (!r2) (some false) (some true)) := sem_eq (f := 23) (m := 0) rfl (by kernel_rfl)
theorem laws_eqStore_eq (a_Pager_Disk_Blocks : List ByteArray) (a_Pager_Disk_Pending : List (Int × ByteArray)) (a_Pager_Disk_Fuse : Int) (a_Pager_Disk_Off : Bool) (a_Pager_Super_Blocks : Int) (a_Pager_Super_Log : Int) (a_Pager_Super_Seq : Int) (a_Pager_Super_Turn : Int) (a_Pager_Seq : Int) (a_Pager_At : Int) (a_Pager_Logged : List (Int × ByteArray)) (a_Pager_Dirty : List (Int × ByteArray)) (b_Pager_Disk_Blocks : List ByteArray) (b_Pager_Disk_Pending : List (Int × ByteArray)) (b_Pager_Disk_Fuse : Int) (b_Pager_Disk_Off : Bool) (b_Pager_Super_Blocks : Int) (b_Pager_Super_Log : Int) (b_Pager_Super_Seq : Int) (b_Pager_Super_Turn : Int) (b_Pager_Seq : Int) (b_Pager_At : Int) (b_Pager_Logged : List (Int × ByteArray)) (b_Pager_Dirty : List (Int × ByteArray)) :
    laws_eqStore a_Pager_Disk_Blocks a_Pager_Disk_Pending a_Pager_Disk_Fuse a_Pager_Disk_Off a_Pager_Super_Blocks a_Pager_Super_Log a_Pager_Super_Seq a_Pager_Super_Turn a_Pager_Seq a_Pager_At a_Pager_Logged a_Pager_Dirty b_Pager_Disk_Blocks b_Pager_Disk_Pending b_Pager_Disk_Fuse b_Pager_Disk_Off b_Pager_Super_Blocks b_Pager_Super_Log b_Pager_Super_Seq b_Pager_Super_Turn b_Pager_Seq b_Pager_At b_Pager_Logged b_Pager_Dirty = (
      sbind (laws_eqPager a_Pager_Disk_Blocks a_Pager_Disk_Pending a_Pager_Disk_Fuse a_Pager_Disk_Off a_Pager_Super_Blocks a_Pager_Super_Log a_Pager_Super_Seq a_Pager_Super_Turn a_Pager_Seq a_Pager_At a_Pager_Logged a_Pager_Dirty b_Pager_Disk_Blocks b_Pager_Disk_Pending b_Pager_Disk_Fuse b_Pager_Disk_Off b_Pager_Super_Blocks b_Pager_Super_Log b_Pager_Super_Seq b_Pager_Super_Turn b_Pager_Seq b_Pager_At b_Pager_Logged b_Pager_Dirty) fun r1 =>
      sif (!r1) (some false) (some true)) := sem_eq (f := 60) (m := 0) rfl (by kernel_rfl)
theorem laws_eqPager_eq (a_Disk_Blocks : List ByteArray) (a_Disk_Pending : List (Int × ByteArray)) (a_Disk_Fuse : Int) (a_Disk_Off : Bool) (a_Super_Blocks : Int) (a_Super_Log : Int) (a_Super_Seq : Int) (a_Super_Turn : Int) (a_Seq : Int) (a_At : Int) (a_Logged : List (Int × ByteArray)) (a_Dirty : List (Int × ByteArray)) (b_Disk_Blocks : List ByteArray) (b_Disk_Pending : List (Int × ByteArray)) (b_Disk_Fuse : Int) (b_Disk_Off : Bool) (b_Super_Blocks : Int) (b_Super_Log : Int) (b_Super_Seq : Int) (b_Super_Turn : Int) (b_Seq : Int) (b_At : Int) (b_Logged : List (Int × ByteArray)) (b_Dirty : List (Int × ByteArray)) :
    laws_eqPager a_Disk_Blocks a_Disk_Pending a_Disk_Fuse a_Disk_Off a_Super_Blocks a_Super_Log a_Super_Seq a_Super_Turn a_Seq a_At a_Logged a_Dirty b_Disk_Blocks b_Disk_Pending b_Disk_Fuse b_Disk_Off b_Super_Blocks b_Super_Log b_Super_Seq b_Super_Turn b_Seq b_At b_Logged b_Dirty = (
      sbind (laws_eqDisk a_Disk_Blocks a_Disk_Pending a_Disk_Fuse a_Disk_Off b_Disk_Blocks b_Disk_Pending b_Disk_Fuse b_Disk_Off) fun r1 =>
      sif (!r1) (some false) <|
      sbind (laws_eqSuper a_Super_Blocks a_Super_Log a_Super_Seq a_Super_Turn b_Super_Blocks b_Super_Log b_Super_Seq b_Super_Turn) fun r2 =>
      sif (!r2) (some false) <|
      sif ((a_Seq != b_Seq)) (some false) <|
      sif ((a_At != b_At)) (some false) <|
      sbind (laws_eqPageS a_Logged b_Logged) fun r3 =>
      sif (!r3) (some false) <|
      sbind (laws_eqPageS a_Dirty b_Dirty) fun r4 =>
      sif (!r4) (some false) (some true)) := sem_eq (f := 18) (m := 0) rfl (by kernel_rfl)
theorem laws_eqDisk_eq (a_Blocks : List ByteArray) (a_Pending : List (Int × ByteArray)) (a_Fuse : Int) (a_Off : Bool) (b_Blocks : List ByteArray) (b_Pending : List (Int × ByteArray)) (b_Fuse : Int) (b_Off : Bool) :
    laws_eqDisk a_Blocks a_Pending a_Fuse a_Off b_Blocks b_Pending b_Fuse b_Off = (
      sbind (laws_eqStringS a_Blocks b_Blocks) fun r1 =>
      sif (!r1) (some false) <|
      sbind (laws_eqPutS a_Pending b_Pending) fun r2 =>
      sif (!r2) (some false) <|
      sif ((a_Fuse != b_Fuse)) (some false) (sif (!(a_Off == b_Off)) (some false) (some true))) := sem_eq (f := 48) (m := 0) rfl (by kernel_rfl)
theorem laws_eqStringS_eq (a : List ByteArray) (b : List ByteArray) :
    laws_eqStringS a b = (
      sif (((a.length : Int) != (b.length : Int))) (some false) (laws_eqStringS_l4 a b 0)) := sem_eq (f := 102) (m := 0) rfl (by kernel_rfl)
theorem laws_eqStringS_l4_eq (a : List ByteArray) (b : List ByteArray) (i : Int) :
    laws_eqStringS_l4 a b i = (
      sif (decide (i < (a.length : Int)))
       (sbind (idx a i) fun x1 =>
        sbind (idx b i) fun x2 =>
        sif (!seq x1 x2) (some false) (laws_eqStringS_l4 a b (wi64 (i + 1)))) (some true)) := seml_eq (f := 102) (m := 0) (l := 4) (by kernel_rfl)
theorem laws_eqPutS_eq (a : List (Int × ByteArray)) (b : List (Int × ByteArray)) :
    laws_eqPutS a b = (
      sif (((a.length : Int) != (b.length : Int))) (some false) (laws_eqPutS_l4 a b 0)) := sem_eq (f := 103) (m := 0) rfl (by kernel_rfl)
theorem laws_eqPutS_l4_eq (a : List (Int × ByteArray)) (b : List (Int × ByteArray)) (i : Int) :
    laws_eqPutS_l4 a b i = (
      sif (decide (i < (a.length : Int)))
       (sbind (idx a i) fun x1 =>
        sbind (idx b i) fun x2 =>
        sbind (laws_eqPut x1.1 x1.2 x2.1 x2.2) fun r3 =>
        sif (!r3) (some false) (laws_eqPutS_l4 a b (wi64 (i + 1)))) (some true)) := seml_eq (f := 103) (m := 0) (l := 4) (by kernel_rfl)
theorem laws_eqPut_eq (a_Block : Int) (a_Data : ByteArray) (b_Block : Int) (b_Data : ByteArray) :
    laws_eqPut a_Block a_Data b_Block b_Data = (
      sif ((a_Block != b_Block)) (some false) (sif (!seq a_Data b_Data) (some false) (some true))) := sem_eq (f := 134) (m := 0) rfl (by kernel_rfl)
theorem laws_eqSuper_eq (a_Blocks : Int) (a_Log : Int) (a_Seq : Int) (a_Turn : Int) (b_Blocks : Int) (b_Log : Int) (b_Seq : Int) (b_Turn : Int) :
    laws_eqSuper a_Blocks a_Log a_Seq a_Turn b_Blocks b_Log b_Seq b_Turn = (
      sif ((a_Blocks != b_Blocks)) (some false) <|
      sif ((a_Log != b_Log)) (some false) <|
      sif ((a_Seq != b_Seq)) (some false) (sif ((a_Turn != b_Turn)) (some false) (some true))) := sem_eq (f := 49) (m := 0) rfl (by kernel_rfl)
theorem laws_eqPageS_eq (a : List (Int × ByteArray)) (b : List (Int × ByteArray)) :
    laws_eqPageS a b = (
      sif (((a.length : Int) != (b.length : Int))) (some false) (laws_eqPageS_l4 a b 0)) := sem_eq (f := 50) (m := 0) rfl (by kernel_rfl)
theorem laws_eqPageS_l4_eq (a : List (Int × ByteArray)) (b : List (Int × ByteArray)) (i : Int) :
    laws_eqPageS_l4 a b i = (
      sif (decide (i < (a.length : Int)))
       (sbind (idx a i) fun x1 =>
        sbind (idx b i) fun x2 =>
        sbind (laws_eqPage x1.1 x1.2 x2.1 x2.2) fun r3 =>
        sif (!r3) (some false) (laws_eqPageS_l4 a b (wi64 (i + 1)))) (some true)) := seml_eq (f := 50) (m := 0) (l := 4) (by kernel_rfl)
theorem laws_eqPage_eq (a_Block : Int) (a_Data : ByteArray) (b_Block : Int) (b_Data : ByteArray) :
    laws_eqPage a_Block a_Data b_Block b_Data = (
      sif ((a_Block != b_Block)) (some false) (sif (!seq a_Data b_Data) (some false) (some true))) := sem_eq (f := 104) (m := 0) rfl (by kernel_rfl)
theorem laws_eqNamedNumbersS_eq (a : List (ByteArray × List Int × List Int)) (b : List (ByteArray × List Int × List Int)) :
    laws_eqNamedNumbersS a b = (
      sif (((a.length : Int) != (b.length : Int))) (some false) (laws_eqNamedNumbersS_l4 a b 0)) := sem_eq (f := 61) (m := 0) rfl (by kernel_rfl)
theorem laws_eqNamedNumbersS_l4_eq (a : List (ByteArray × List Int × List Int)) (b : List (ByteArray × List Int × List Int)) (i : Int) :
    laws_eqNamedNumbersS_l4 a b i = (
      sif (decide (i < (a.length : Int)))
       (sbind (idx a i) fun x1 =>
        sbind (idx b i) fun x2 =>
        sbind (laws_eqNamedNumbers x1.1 x1.2.1 x1.2.2 x2.1 x2.2.1 x2.2.2) fun r3 =>
        sif (!r3) (some false) (laws_eqNamedNumbersS_l4 a b (wi64 (i + 1)))) (some true)) := seml_eq (f := 61) (m := 0) (l := 4) (by kernel_rfl)
theorem laws_eqNamedNumbers_eq (a_Name : ByteArray) (a_Value_Dims : List Int) (a_Value_Nums : List Int) (b_Name : ByteArray) (b_Value_Dims : List Int) (b_Value_Nums : List Int) :
    laws_eqNamedNumbers a_Name a_Value_Dims a_Value_Nums b_Name b_Value_Dims b_Value_Nums = (
      sif (!seq a_Name b_Name) (some false) <|
      sbind (laws_eqNumbers a_Value_Dims a_Value_Nums b_Value_Dims b_Value_Nums) fun r1 =>
      sif (!r1) (some false) (some true)) := sem_eq (f := 113) (m := 0) rfl (by kernel_rfl)
theorem laws_eqNumbers_eq (a_Dims : List Int) (a_Nums : List Int) (b_Dims : List Int) (b_Nums : List Int) :
    laws_eqNumbers a_Dims a_Nums b_Dims b_Nums = (
      sbind (laws_eqInt64S a_Dims b_Dims) fun r1 =>
      sif (!r1) (some false) <|
      sbind (laws_eqInt64S a_Nums b_Nums) fun r2 =>
      sif (!r2) (some false) (some true)) := sem_eq (f := 140) (m := 0) rfl (by kernel_rfl)
theorem laws_eqInt64S_eq (a : List Int) (b : List Int) :
    laws_eqInt64S a b = (
      sif (((a.length : Int) != (b.length : Int))) (some false) (laws_eqInt64S_l4 a b 0)) := sem_eq (f := 158) (m := 0) rfl (by kernel_rfl)
theorem laws_eqInt64S_l4_eq (a : List Int) (b : List Int) (i : Int) :
    laws_eqInt64S_l4 a b i = (
      sif (decide (i < (a.length : Int)))
       (sbind (idx a i) fun x1 =>
        sbind (idx b i) fun x2 =>
        sif ((x1 != x2)) (some false) (laws_eqInt64S_l4 a b (wi64 (i + 1)))) (some true)) := seml_eq (f := 158) (m := 0) (l := 4) (by kernel_rfl)
end Go.Ve.X
