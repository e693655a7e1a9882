/- The equations of the functions that 'FnExactValidDataset' reaches (printed by plan.py): what each answers. No condition. -/
import Derived.Test.YtjhcincgkbcheaaGreatDoorEnvFnExactValidDataset
namespace Go.Ve.X
open Go.Proofs Go.Ve Go.RowKit
set_option linter.unusedVariables false
set_option maxRecDepth 100000
theorem laws_FnExactValidDataset_eq (aD_Type_Kind : Int) (aD_Type_Size : Int) (aD_Type_Signed : Bool) (aD_Type_Big : Bool) (aD_Type_Names : List ByteArray) (aD_Type_Nums : List Int) (aD_Type_Members : List (ByteArray × Int × Ty_Type)) (aD_Type_Base : List Ty_Type) (aD_Type_Count : Int) (aD_Space_Dims : List Int) (aD_Space_Max : List Int) (aD_Chunk : List Int) (aD_Filters : List (Int × Int × Bool)) (aD_Fill : ByteArray) (aD_Index : Int) :
    laws_FnExactValidDataset aD_Type_Kind aD_Type_Size aD_Type_Signed aD_Type_Big aD_Type_Names aD_Type_Nums aD_Type_Members aD_Type_Base aD_Type_Count aD_Space_Dims aD_Space_Max aD_Chunk aD_Filters aD_Fill aD_Index = (
      sbind (laws_szDataset aD_Type_Kind aD_Type_Size aD_Type_Signed aD_Type_Big aD_Type_Names aD_Type_Nums aD_Type_Members aD_Type_Base aD_Type_Count aD_Space_Dims aD_Space_Max aD_Chunk aD_Filters aD_Fill aD_Index 1048576) fun r1 =>
      sif (decide (r1 < 0)) (some true) <|
      sbind (laws_toDataset aD_Type_Kind aD_Type_Size aD_Type_Signed aD_Type_Big aD_Type_Names aD_Type_Nums aD_Type_Members aD_Type_Base aD_Type_Count aD_Space_Dims aD_Space_Max aD_Chunk aD_Filters aD_Fill aD_Index) fun r2 =>
      sbind (spec_ValidDataset r2.1 r2.2.1 r2.2.2.1 r2.2.2.2.1 r2.2.2.2.2.2.2.2.1 r2.2.2.2.2.2.2.2.2.1 r2.2.2.2.2.2.2.2.2.2.1 r2.2.2.2.2.2.2.2.2.2.2.1 r2.2.2.2.2.1 r2.2.2.2.2.2.2.2.2.2.2.2.1 r2.2.2.2.2.2.2.2.2.2.2.2.2.1 r2.2.2.2.2.2.2.2.2.2.2.2.2.2.1 r2.2.2.2.2.2.2.2.2.2.2.2.2.2.2 r2.2.2.2.2.2.1 r2.2.2.2.2.2.2.1) fun r3 =>
      sbind (laws_toDataset aD_Type_Kind aD_Type_Size aD_Type_Signed aD_Type_Big aD_Type_Names aD_Type_Nums aD_Type_Members aD_Type_Base aD_Type_Count aD_Space_Dims aD_Space_Max aD_Chunk aD_Filters aD_Fill aD_Index) fun r4 =>
      sbind (impl_ValidDataset r4.1 r4.2.1 r4.2.2.1 r4.2.2.2.1 r4.2.2.2.2.2.2.2.1 r4.2.2.2.2.2.2.2.2.1 r4.2.2.2.2.2.2.2.2.2.1 r4.2.2.2.2.2.2.2.2.2.2.1 r4.2.2.2.2.1 r4.2.2.2.2.2.2.2.2.2.2.2.1 r4.2.2.2.2.2.2.2.2.2.2.2.2.1 r4.2.2.2.2.2.2.2.2.2.2.2.2.2.1 r4.2.2.2.2.2.2.2.2.2.2.2.2.2.2 r4.2.2.2.2.2.1 r4.2.2.2.2.2.2.1) fun r5 =>
      sif (!(r5 == r3)) (some false) <|
      sbind (laws_toDataset aD_Type_Kind aD_Type_Size aD_Type_Signed aD_Type_Big aD_Type_Names aD_Type_Nums aD_Type_Members aD_Type_Base aD_Type_Count aD_Space_Dims aD_Space_Max aD_Chunk aD_Filters aD_Fill aD_Index) fun r6 =>
      sbind (laws_eqDataset r4.1 r4.2.1 r4.2.2.1 r4.2.2.2.1 r4.2.2.2.2.2.2.2.1 r4.2.2.2.2.2.2.2.2.1 r4.2.2.2.2.2.2.2.2.2.1 r4.2.2.2.2.2.2.2.2.2.2.1 r4.2.2.2.2.1 r4.2.2.2.2.2.2.2.2.2.2.2.1 r4.2.2.2.2.2.2.2.2.2.2.2.2.1 r4.2.2.2.2.2.2.2.2.2.2.2.2.2.1 r4.2.2.2.2.2.2.2.2.2.2.2.2.2.2 r4.2.2.2.2.2.1 r4.2.2.2.2.2.2.1 r6.1 r6.2.1 r6.2.2.1 r6.2.2.2.1 r6.2.2.2.2.2.2.2.1 r6.2.2.2.2.2.2.2.2.1 r6.2.2.2.2.2.2.2.2.2.1 r6.2.2.2.2.2.2.2.2.2.2.1 r6.2.2.2.2.1 r6.2.2.2.2.2.2.2.2.2.2.2.1 r6.2.2.2.2.2.2.2.2.2.2.2.2.1 r6.2.2.2.2.2.2.2.2.2.2.2.2.2.1 r6.2.2.2.2.2.2.2.2.2.2.2.2.2.2 r6.2.2.2.2.2.1 r6.2.2.2.2.2.2.1) fun r7 =>
      sif (!r7) (some false) (some true)) := sem_eq (f := 8) (m := 0) rfl (by kernel_rfl)
theorem laws_szDataset_eq (a_Type_Kind : Int) (a_Type_Size : Int) (a_Type_Signed : Bool) (a_Type_Big : Bool) (a_Type_Names : List ByteArray) (a_Type_Nums : List Int) (a_Type_Members : List (ByteArray × Int × Ty_Type)) (a_Type_Base : List Ty_Type) (a_Type_Count : Int) (a_Space_Dims : List Int) (a_Space_Max : List Int) (a_Chunk : List Int) (a_Filters : List (Int × Int × Bool)) (a_Fill : ByteArray) (a_Index : Int) (left : Int) :
    laws_szDataset a_Type_Kind a_Type_Size a_Type_Signed a_Type_Big a_Type_Names a_Type_Nums a_Type_Members a_Type_Base a_Type_Count a_Space_Dims a_Space_Max a_Chunk a_Filters a_Fill a_Index left = (
      sbind (laws_szType a_Type_Kind a_Type_Size a_Type_Signed a_Type_Big a_Type_Names a_Type_Nums a_Type_Members a_Type_Base a_Type_Count left) fun r1 =>
      sif (decide (r1 < 0)) (some (-1)) <|
      sbind (laws_szSpace a_Space_Dims a_Space_Max r1) fun r2 =>
      sif (decide (r2 < 0)) (some (-1)) <|
      sbind (laws_szInt64S a_Chunk r2) fun r3 =>
      sif (decide (r3 < 0)) (some (-1)) <|
      sbind (laws_szFilterS a_Filters r3) fun r4 =>
      sif (decide (r4 < 0)) (some (-1)) <|
      sif (decide (wi64 (r4 - (a_Fill.size : Int)) < 0)) (some (-1)) (some (wi64 (r4 - (a_Fill.size : Int))))) := sem_eq (f := 30) (m := 0) rfl (by kernel_rfl)
theorem laws_szType_eq (a_Kind : Int) (a_Size : Int) (a_Signed : Bool) (a_Big : Bool) (a_Names : List ByteArray) (a_Nums : List Int) (a_Members : List (ByteArray × Int × Ty_Type)) (a_Base : List Ty_Type) (a_Count : Int) (left : Int) :
    laws_szType a_Kind a_Size a_Signed a_Big a_Names a_Nums a_Members a_Base a_Count left = (
      sbind (laws_szStringS a_Names left) fun r1 =>
      sif (decide (r1 < 0)) (some (-1)) <|
      sbind (laws_szInt64S a_Nums r1) fun r2 =>
      sif (decide (r2 < 0)) (some (-1)) <|
      sbind (laws_szMemberS a_Members r2) fun r3 =>
      sif (decide (r3 < 0)) (some (-1)) <|
      sbind (laws_szTypeS a_Base r3) fun r4 =>
      sif (decide (r4 < 0)) (some (-1)) (some r4)) := sem_eq (f := 14) (m := 0) rfl (by kernel_rfl)
theorem laws_szStringS_eq (a : List ByteArray) (left : Int) :
    laws_szStringS a left = (
      sif (decide (wi64 (left - (a.length : Int)) < 0)) (some (-1)) <|
      laws_szStringS_l5 a (wi64 (left - (a.length : Int))) 0) := sem_eq (f := 41) (m := 0) rfl (by kernel_rfl)
theorem laws_szStringS_l5_eq (a : List ByteArray) (left : Int) (i : Int) :
    laws_szStringS_l5 a left i = (
      sif (decide (i < (a.length : Int)))
       (sbind (idx a i) fun x1 =>
        sif (decide (wi64 (left - (x1.size : Int)) < 0)) (some (-1)) <|
        laws_szStringS_l5 a (wi64 (left - (x1.size : Int))) (wi64 (i + 1))) (some left)) := seml_eq (f := 41) (m := 0) (l := 5) (by kernel_rfl)
theorem laws_szInt64S_eq (a : List Int) (left : Int) :
    laws_szInt64S a left = (
      sif (decide (wi64 (left - (a.length : Int)) < 0)) (some (-1)) (some (wi64 (left - (a.length : Int))))) := sem_eq (f := 35) (m := 0) rfl (by kernel_rfl)
theorem laws_szMemberS_eq (a : List (ByteArray × Int × Ty_Type)) (left : Int) :
    laws_szMemberS a left = (
      sif (decide (wi64 (left - (a.length : Int)) < 0)) (some (-1)) <|
      laws_szMemberS_l5 a (wi64 (left - (a.length : Int))) 0) := sem_eq (f := 42) (m := 0) rfl (by kernel_rfl)
theorem laws_szMemberS_l5_eq (a : List (ByteArray × Int × Ty_Type)) (left : Int) (i : Int) :
    laws_szMemberS_l5 a left i = (
      sif (decide (i < (a.length : Int)))
       (sbind (idx a i) fun x1 =>
        sbind (laws_szMember x1.1 x1.2.1 x1.2.2.f_Kind x1.2.2.f_Size x1.2.2.f_Signed x1.2.2.f_Big x1.2.2.f_Names x1.2.2.f_Nums x1.2.2.f_Members x1.2.2.f_Base x1.2.2.f_Count left) fun r2 =>
        sif (decide (r2 < 0)) (some (-1)) (laws_szMemberS_l5 a r2 (wi64 (i + 1)))) (some left)) := seml_eq (f := 42) (m := 0) (l := 5) (by kernel_rfl)
theorem laws_szMember_eq (a_Name : ByteArray) (a_Offset : Int) (a_Type_Kind : Int) (a_Type_Size : Int) (a_Type_Signed : Bool) (a_Type_Big : Bool) (a_Type_Names : List ByteArray) (a_Type_Nums : List Int) (a_Type_Members : List (ByteArray × Int × Ty_Type)) (a_Type_Base : List Ty_Type) (a_Type_Count : Int) (left : Int) :
    laws_szMember a_Name a_Offset a_Type_Kind a_Type_Size a_Type_Signed a_Type_Big a_Type_Names a_Type_Nums a_Type_Members a_Type_Base a_Type_Count left = (
      sif (decide (wi64 (left - (a_Name.size : Int)) < 0)) (some (-1)) <|
      sbind (laws_szType a_Type_Kind a_Type_Size a_Type_Signed a_Type_Big a_Type_Names a_Type_Nums a_Type_Members a_Type_Base a_Type_Count (wi64 (left - (a_Name.size : Int)))) fun r1 =>
      sif (decide (r1 < 0)) (some (-1)) (some r1)) := sem_eq (f := 85) (m := 0) rfl (by kernel_rfl)
theorem laws_szTypeS_eq (a : List Ty_Type) (left : Int) :
    laws_szTypeS a left = (
      sif (decide (wi64 (left - (a.length : Int)) < 0)) (some (-1)) <|
      laws_szTypeS_l5 a (wi64 (left - (a.length : Int))) 0) := sem_eq (f := 43) (m := 0) rfl (by kernel_rfl)
theorem laws_szTypeS_l5_eq (a : List Ty_Type) (left : Int) (i : Int) :
    laws_szTypeS_l5 a left i = (
      sif (decide (i < (a.length : Int)))
       (sbind (idx a i) fun x1 =>
        sbind (laws_szType x1.f_Kind x1.f_Size x1.f_Signed x1.f_Big x1.f_Names x1.f_Nums x1.f_Members x1.f_Base x1.f_Count left) fun r2 =>
        sif (decide (r2 < 0)) (some (-1)) (laws_szTypeS_l5 a r2 (wi64 (i + 1)))) (some left)) := seml_eq (f := 43) (m := 0) (l := 5) (by kernel_rfl)
theorem laws_szSpace_eq (a_Dims : List Int) (a_Max : List Int) (left : Int) :
    laws_szSpace a_Dims a_Max left = (
      sbind (laws_szInt64S a_Dims left) fun r1 =>
      sif (decide (r1 < 0)) (some (-1)) <|
      sbind (laws_szInt64S a_Max r1) fun r2 =>
      sif (decide (r2 < 0)) (some (-1)) (some r2)) := sem_eq (f := 64) (m := 0) rfl (by kernel_rfl)
theorem laws_szFilterS_eq (a : List (Int × Int × Bool)) (left : Int) :
    laws_szFilterS a left = (
      sif (decide (wi64 (left - (a.length : Int)) < 0)) (some (-1)) (some (wi64 (left - (a.length : Int))))) := sem_eq (f := 65) (m := 0) rfl (by kernel_rfl)
theorem laws_toDataset_eq (a_Type_Kind : Int) (a_Type_Size : Int) (a_Type_Signed : Bool) (a_Type_Big : Bool) (a_Type_Names : List ByteArray) (a_Type_Nums : List Int) (a_Type_Members : List (ByteArray × Int × Ty_Type)) (a_Type_Base : List Ty_Type) (a_Type_Count : Int) (a_Space_Dims : List Int) (a_Space_Max : List Int) (a_Chunk : List Int) (a_Filters : List (Int × Int × Bool)) (a_Fill : ByteArray) (a_Index : Int) :
    laws_toDataset a_Type_Kind a_Type_Size a_Type_Signed a_Type_Big a_Type_Names a_Type_Nums a_Type_Members a_Type_Base a_Type_Count a_Space_Dims a_Space_Max a_Chunk a_Filters a_Fill a_Index = (
      sbind (laws_toType a_Type_Kind a_Type_Size a_Type_Signed a_Type_Big a_Type_Names a_Type_Nums a_Type_Members a_Type_Base a_Type_Count) fun r1 =>
      sbind (laws_toSpace a_Space_Dims a_Space_Max) fun r2 =>
      sbind (laws_toInt64S a_Chunk) fun r3 =>
      sbind (laws_toFilterS a_Filters) fun r4 =>
      some (r1.1, r1.2.1, r1.2.2.1, r1.2.2.2.1, r1.2.2.2.2.1, a_Fill, a_Index, r1.2.2.2.2.2.1, r1.2.2.2.2.2.2.1, r1.2.2.2.2.2.2.2.1, r1.2.2.2.2.2.2.2.2, r2.1, r2.2, r3, r4)) := sem_eq (f := 32) (m := 0) rfl (by kernel_rfl)
theorem laws_toType_eq (a_Kind : Int) (a_Size : Int) (a_Signed : Bool) (a_Big : Bool) (a_Names : List ByteArray) (a_Nums : List Int) (a_Members : List (ByteArray × Int × Ty_Type)) (a_Base : List Ty_Type) (a_Count : Int) :
    laws_toType a_Kind a_Size a_Signed a_Big a_Names a_Nums a_Members a_Base a_Count = (
      sbind (laws_toStringS a_Names) fun r1 =>
      sbind (laws_toInt64S a_Nums) fun r2 =>
      sbind (laws_toMemberS a_Members) fun r3 =>
      sbind (laws_toTypeS a_Base) fun r4 =>
      some (a_Kind, a_Size, a_Signed, a_Big, a_Count, r1, r2, r3, r4)) := sem_eq (f := 16) (m := 0) rfl (by kernel_rfl)
theorem laws_toStringS_eq (a : List ByteArray) :
    laws_toStringS a = (
      sif (le3 0 (a.length : Int) (a.length : Int) && room a.length 16) (laws_toStringS_l3 a 0 (List.replicate a.length (bs [] : ByteArray))) (none)) := sem_eq (f := 46) (m := 0) rfl (by kernel_rfl)
theorem laws_toStringS_l3_eq (a : List ByteArray) (i : Int) (out : List ByteArray) :
    laws_toStringS_l3 a i out = (
      sif (decide (i < (a.length : Int)))
       (sbind (idx a i) fun x1 =>
        sif (lt3 0 i (out.length : Int)) (laws_toStringS_l3 a (wi64 (i + 1)) (out.set i.toNat x1)) (none)) (some out)) := seml_eq (f := 46) (m := 0) (l := 3) (by kernel_rfl)
theorem laws_toInt64S_eq (a : List Int) :
    laws_toInt64S a = (
      sif (le3 0 (a.length : Int) (a.length : Int) && room a.length 8) (laws_toInt64S_l3 a 0 (List.replicate a.length (0 : Int))) (none)) := sem_eq (f := 20) (m := 0) rfl (by kernel_rfl)
theorem laws_toInt64S_l3_eq (a : List Int) (i : Int) (out : List Int) :
    laws_toInt64S_l3 a i out = (
      sif (decide (i < (a.length : Int)))
       (sbind (idx a i) fun x1 =>
        sif (lt3 0 i (out.length : Int)) (laws_toInt64S_l3 a (wi64 (i + 1)) (out.set i.toNat x1)) (none)) (some out)) := seml_eq (f := 20) (m := 0) (l := 3) (by kernel_rfl)
theorem laws_toMemberS_eq (a : List (ByteArray × Int × Ty_Type)) :
    laws_toMemberS a = (
      sif (le3 0 (a.length : Int) (a.length : Int) && room a.length 152)
       (laws_toMemberS_l3 a 0 (List.replicate a.length ((bs [], 0, (Ty_Type.mk 0 0 false false ([] : List ByteArray) ([] : List Int) ([] : List (ByteArray × Int × Ty_Type)) ([] : List Ty_Type) 0)) : ByteArray × Int × Ty_Type))) (none)) := sem_eq (f := 47) (m := 0) rfl (by kernel_rfl)
theorem laws_toMemberS_l3_eq (a : List (ByteArray × Int × Ty_Type)) (i : Int) (out : List (ByteArray × Int × Ty_Type)) :
    laws_toMemberS_l3 a i out = (
      sif (decide (i < (a.length : Int)))
       (sbind (idx a i) fun x1 =>
        sbind (laws_toMember x1.1 x1.2.1 x1.2.2.f_Kind x1.2.2.f_Size x1.2.2.f_Signed x1.2.2.f_Big x1.2.2.f_Names x1.2.2.f_Nums x1.2.2.f_Members x1.2.2.f_Base x1.2.2.f_Count) fun r2 =>
        sif (lt3 0 i (out.length : Int))
         (laws_toMemberS_l3 a (wi64 (i + 1)) (out.set i.toNat (r2.1, r2.2.1, (Ty_Type.mk r2.2.2.1 r2.2.2.2.1 r2.2.2.2.2.1 r2.2.2.2.2.2.1 r2.2.2.2.2.2.2.2.1 r2.2.2.2.2.2.2.2.2.1 r2.2.2.2.2.2.2.2.2.2.1 r2.2.2.2.2.2.2.2.2.2.2 r2.2.2.2.2.2.2.1)))) (none)) (some out)) := seml_eq (f := 47) (m := 0) (l := 3) (by kernel_rfl)
theorem laws_toMember_eq (a_Name : ByteArray) (a_Offset : Int) (a_Type_Kind : Int) (a_Type_Size : Int) (a_Type_Signed : Bool) (a_Type_Big : Bool) (a_Type_Names : List ByteArray) (a_Type_Nums : List Int) (a_Type_Members : List (ByteArray × Int × Ty_Type)) (a_Type_Base : List Ty_Type) (a_Type_Count : Int) :
    laws_toMember a_Name a_Offset a_Type_Kind a_Type_Size a_Type_Signed a_Type_Big a_Type_Names a_Type_Nums a_Type_Members a_Type_Base a_Type_Count = (
      sbind (laws_toType a_Type_Kind a_Type_Size a_Type_Signed a_Type_Big a_Type_Names a_Type_Nums a_Type_Members a_Type_Base a_Type_Count) fun r1 =>
      some (a_Name, a_Offset, r1.1, r1.2.1, r1.2.2.1, r1.2.2.2.1, r1.2.2.2.2.1, r1.2.2.2.2.2.1, r1.2.2.2.2.2.2.1, r1.2.2.2.2.2.2.2.1, r1.2.2.2.2.2.2.2.2)) := sem_eq (f := 90) (m := 0) rfl (by kernel_rfl)
theorem laws_toTypeS_eq (a : List Ty_Type) :
    laws_toTypeS a = (
      sif (le3 0 (a.length : Int) (a.length : Int) && room a.length 128)
       (laws_toTypeS_l3 a 0 (List.replicate a.length ((Ty_Type.mk 0 0 false false ([] : List ByteArray) ([] : List Int) ([] : List (ByteArray × Int × Ty_Type)) ([] : List Ty_Type) 0) : Ty_Type))) (none)) := sem_eq (f := 48) (m := 0) rfl (by kernel_rfl)
theorem laws_toTypeS_l3_eq (a : List Ty_Type) (i : Int) (out : List Ty_Type) :
    laws_toTypeS_l3 a i out = (
      sif (decide (i < (a.length : Int)))
       (sbind (idx a i) fun x1 =>
        sbind (laws_toType x1.f_Kind x1.f_Size x1.f_Signed x1.f_Big x1.f_Names x1.f_Nums x1.f_Members x1.f_Base x1.f_Count) fun r2 =>
        sif (lt3 0 i (out.length : Int))
         (laws_toTypeS_l3 a (wi64 (i + 1)) (out.set i.toNat (Ty_Type.mk r2.1 r2.2.1 r2.2.2.1 r2.2.2.2.1 r2.2.2.2.2.2.1 r2.2.2.2.2.2.2.1 r2.2.2.2.2.2.2.2.1 r2.2.2.2.2.2.2.2.2 r2.2.2.2.2.1))) (none)) (some out)) := seml_eq (f := 48) (m := 0) (l := 3) (by kernel_rfl)
theorem laws_toSpace_eq (a_Dims : List Int) (a_Max : List Int) :
    laws_toSpace a_Dims a_Max = (
      sbind (laws_toInt64S a_Dims) fun r1 =>
      sbind (laws_toInt64S a_Max) fun r2 =>
      some (r1, r2)) := sem_eq (f := 67) (m := 0) rfl (by kernel_rfl)
theorem laws_toFilterS_eq (a : List (Int × Int × Bool)) :
    laws_toFilterS a = (
      sif (le3 0 (a.length : Int) (a.length : Int) && room a.length 24) (laws_toFilterS_l3 a 0 (List.replicate a.length ((0, 0, false) : Int × Int × Bool))) (none)) := sem_eq (f := 68) (m := 0) rfl (by kernel_rfl)
theorem laws_toFilterS_l3_eq (a : List (Int × Int × Bool)) (i : Int) (out : List (Int × Int × Bool)) :
    laws_toFilterS_l3 a i out = (
      sif (decide (i < (a.length : Int)))
       (sbind (idx a i) fun x1 =>
        sbind (laws_toFilter x1.1 x1.2.1 x1.2.2) fun r2 =>
        sif (lt3 0 i (out.length : Int)) (laws_toFilterS_l3 a (wi64 (i + 1)) (out.set i.toNat (r2.1, r2.2.1, r2.2.2))) (none)) (some out)) := seml_eq (f := 68) (m := 0) (l := 3) (by kernel_rfl)
theorem laws_toFilter_eq (a_Kind : Int) (a_Param : Int) (a_Optional : Bool) :
    laws_toFilter a_Kind a_Param a_Optional = (
      some (a_Kind, a_Param, a_Optional)) := sem_eq (f := 111) (m := 0) rfl (by kernel_rfl)
theorem spec_ValidDataset_eq (d_Type_Kind : Int) (d_Type_Size : Int) (d_Type_Signed : Bool) (d_Type_Big : Bool) (d_Type_Names : List ByteArray) (d_Type_Nums : List Int) (d_Type_Members : List (ByteArray × Int × Ty_Type)) (d_Type_Base : List Ty_Type) (d_Type_Count : Int) (d_Space_Dims : List Int) (d_Space_Max : List Int) (d_Chunk : List Int) (d_Filters : List (Int × Int × Bool)) (d_Fill : ByteArray) (d_Index : Int) :
    spec_ValidDataset d_Type_Kind d_Type_Size d_Type_Signed d_Type_Big d_Type_Names d_Type_Nums d_Type_Members d_Type_Base d_Type_Count d_Space_Dims d_Space_Max d_Chunk d_Filters d_Fill d_Index = (
      sbind (spec_l21Ok d_Type_Kind d_Type_Size d_Type_Signed d_Type_Big d_Type_Names d_Type_Nums d_Type_Members d_Type_Base d_Type_Count d_Space_Dims d_Space_Max d_Chunk d_Filters d_Fill d_Index) fun r1 =>
      some r1) := sem_eq (f := 31) (m := 0) rfl (by kernel_rfl)
theorem spec_l21Ok_eq (d_Type_Kind : Int) (d_Type_Size : Int) (d_Type_Signed : Bool) (d_Type_Big : Bool) (d_Type_Names : List ByteArray) (d_Type_Nums : List Int) (d_Type_Members : List (ByteArray × Int × Ty_Type)) (d_Type_Base : List Ty_Type) (d_Type_Count : Int) (d_Space_Dims : List Int) (d_Space_Max : List Int) (d_Chunk : List Int) (d_Filters : List (Int × Int × Bool)) (d_Fill : ByteArray) (d_Index : Int) :
    spec_l21Ok d_Type_Kind d_Type_Size d_Type_Signed d_Type_Big d_Type_Names d_Type_Nums d_Type_Members d_Type_Base d_Type_Count d_Space_Dims d_Space_Max d_Chunk d_Filters d_Fill d_Index = (
      sbind (spec_l02Ok d_Type_Kind d_Type_Size d_Type_Signed d_Type_Big d_Type_Names d_Type_Nums d_Type_Members d_Type_Base d_Type_Count) fun r1 =>
      sif (!r1) (some false) <|
      sbind (spec_l02Encode d_Type_Kind d_Type_Size d_Type_Signed d_Type_Big d_Type_Names d_Type_Nums d_Type_Members d_Type_Base d_Type_Count) fun r2 =>
      sif (decide ((r2.size : Int) > 200)) (some false) <|
      sbind (spec_l05Space d_Space_Dims d_Space_Max) fun r3 =>
      sif (!r3) (some false) <|
      sbind (spec_l20Ok d_Space_Dims d_Chunk) fun r4 =>
      sif (!r4) (some false) <|
      sbind (spec_l21Chunk d_Type_Kind d_Type_Size d_Type_Signed d_Type_Big d_Type_Names d_Type_Nums d_Type_Members d_Type_Base d_Type_Count d_Space_Dims d_Space_Max d_Chunk d_Filters d_Fill d_Index) fun r5 =>
      sif (decide (r5 ≤ 512))
       (sbind (spec_l19Ok d_Filters) fun r6 =>
        sif (r6)
         (sbind (spec_l03Ok d_Type_Kind d_Type_Size d_Type_Signed d_Type_Big d_Type_Names d_Type_Nums d_Type_Members d_Type_Base d_Type_Count d_Fill) fun r7 =>
          sif (r7)
           (sbind (spec_l00In d_Index 0 255) fun r8 =>
            some r8) (some false)) (some false)) (some false)) := sem_eq (f := 66) (m := 0) rfl (by kernel_rfl)
theorem spec_l02Ok_eq (t_Kind : Int) (t_Size : Int) (t_Signed : Bool) (t_Big : Bool) (t_Names : List ByteArray) (t_Nums : List Int) (t_Members : List (ByteArray × Int × Ty_Type)) (t_Base : List Ty_Type) (t_Count : Int) :
    spec_l02Ok t_Kind t_Size t_Signed t_Big t_Names t_Nums t_Members t_Base t_Count = (
      sif ((t_Kind == 1))
       (sbind (spec_l02Int t_Kind t_Size t_Signed t_Big t_Names t_Nums t_Members t_Base t_Count) fun r1 =>
        spec_l02Ok_l15 r1 t_Kind t_Size t_Signed t_Big t_Names t_Nums t_Members t_Base t_Count) <|
      sif ((t_Kind == 2))
       (sbind (spec_l00In t_Size 1 16) fun r1 =>
        spec_l02Ok_l15 r1 t_Kind t_Size t_Signed t_Big t_Names t_Nums t_Members t_Base t_Count) <|
      sif ((t_Kind == 3))
       (sbind (spec_l02Enum t_Kind t_Size t_Signed t_Big t_Names t_Nums t_Members t_Base t_Count) fun r1 =>
        spec_l02Ok_l15 r1 t_Kind t_Size t_Signed t_Big t_Names t_Nums t_Members t_Base t_Count) <|
      sif ((t_Kind == 4))
       (sbind (spec_l02Compound t_Kind t_Size t_Signed t_Big t_Names t_Nums t_Members t_Base t_Count) fun r1 =>
        spec_l02Ok_l15 r1 t_Kind t_Size t_Signed t_Big t_Names t_Nums t_Members t_Base t_Count) <|
      sif ((t_Kind == 5))
       (sbind (spec_l02Array t_Kind t_Size t_Signed t_Big t_Names t_Nums t_Members t_Base t_Count) fun r1 =>
        spec_l02Ok_l15 r1 t_Kind t_Size t_Signed t_Big t_Names t_Nums t_Members t_Base t_Count) <|
      sif ((t_Kind == 6))
       (spec_l02Ok_l15 (t_Size == 2) t_Kind t_Size t_Signed t_Big t_Names t_Nums t_Members t_Base t_Count) <|
      spec_l02Ok_l15 false t_Kind t_Size t_Signed t_Big t_Names t_Nums t_Members t_Base t_Count) := sem_eq (f := 78) (m := 0) rfl (by kernel_rfl)
theorem spec_l02Ok_l15_eq (fine : Bool) (t_Kind : Int) (t_Size : Int) (t_Signed : Bool) (t_Big : Bool) (t_Names : List ByteArray) (t_Nums : List Int) (t_Members : List (ByteArray × Int × Ty_Type)) (t_Base : List Ty_Type) (t_Count : Int) :
    spec_l02Ok_l15 fine t_Kind t_Size t_Signed t_Big t_Names t_Nums t_Members t_Base t_Count = (
      sif ((t_Kind == 2))
       (sif (fine)
         (sbind (spec_l02Plain t_Kind t_Size t_Signed t_Big t_Names t_Nums t_Members t_Base t_Count) fun r1 =>
          sif (r1)
           (sif (((t_Names.length : Int) == 0))
             (sif (((t_Nums.length : Int) == 0))
               (sif (((t_Members.length : Int) == 0))
                 (sif (((t_Base.length : Int) == 0))
                   (spec_l02Ok_l17 (t_Count == 0) t_Kind t_Size t_Signed t_Big t_Names t_Nums t_Members t_Base t_Count) <|
                  spec_l02Ok_l17 false t_Kind t_Size t_Signed t_Big t_Names t_Nums t_Members t_Base t_Count) <|
                spec_l02Ok_l17 false t_Kind t_Size t_Signed t_Big t_Names t_Nums t_Members t_Base t_Count) <|
              spec_l02Ok_l17 false t_Kind t_Size t_Signed t_Big t_Names t_Nums t_Members t_Base t_Count) <|
            spec_l02Ok_l17 false t_Kind t_Size t_Signed t_Big t_Names t_Nums t_Members t_Base t_Count) <|
          spec_l02Ok_l17 false t_Kind t_Size t_Signed t_Big t_Names t_Nums t_Members t_Base t_Count) <|
        spec_l02Ok_l17 false t_Kind t_Size t_Signed t_Big t_Names t_Nums t_Members t_Base t_Count) <|
      sif ((t_Kind == 6))
       (sif (fine)
         (sbind (spec_l02Plain t_Kind t_Size t_Signed t_Big t_Names t_Nums t_Members t_Base t_Count) fun r1 =>
          sif (r1)
           (sif (((t_Names.length : Int) == 0))
             (sif (((t_Nums.length : Int) == 0))
               (sif (((t_Members.length : Int) == 0))
                 (sif (((t_Base.length : Int) == 0))
                   (spec_l02Ok_l17 (t_Count == 0) t_Kind t_Size t_Signed t_Big t_Names t_Nums t_Members t_Base t_Count) <|
                  spec_l02Ok_l17 false t_Kind t_Size t_Signed t_Big t_Names t_Nums t_Members t_Base t_Count) <|
                spec_l02Ok_l17 false t_Kind t_Size t_Signed t_Big t_Names t_Nums t_Members t_Base t_Count) <|
              spec_l02Ok_l17 false t_Kind t_Size t_Signed t_Big t_Names t_Nums t_Members t_Base t_Count) <|
            spec_l02Ok_l17 false t_Kind t_Size t_Signed t_Big t_Names t_Nums t_Members t_Base t_Count) <|
          spec_l02Ok_l17 false t_Kind t_Size t_Signed t_Big t_Names t_Nums t_Members t_Base t_Count) <|
        spec_l02Ok_l17 false t_Kind t_Size t_Signed t_Big t_Names t_Nums t_Members t_Base t_Count) <|
      spec_l02Ok_l17 fine t_Kind t_Size t_Signed t_Big t_Names t_Nums t_Members t_Base t_Count) := seml_eq (f := 78) (m := 0) (l := 15) (by kernel_rfl)
theorem spec_l02Ok_l17_eq (fine : Bool) (t_Kind : Int) (t_Size : Int) (t_Signed : Bool) (t_Big : Bool) (t_Names : List ByteArray) (t_Nums : List Int) (t_Members : List (ByteArray × Int × Ty_Type)) (t_Base : List Ty_Type) (t_Count : Int) :
    spec_l02Ok_l17 fine t_Kind t_Size t_Signed t_Big t_Names t_Nums t_Members t_Base t_Count = (
      sif (fine)
       (sbind (spec_l02Size t_Kind t_Size t_Signed t_Big t_Names t_Nums t_Members t_Base t_Count) fun r1 =>
        sif (decide (r1 ≤ 24))
         (sbind (spec_l02Depth t_Kind t_Size t_Signed t_Big t_Names t_Nums t_Members t_Base t_Count) fun r2 =>
          some (decide (r2 ≤ 3))) (some false)) (some false)) := seml_eq (f := 78) (m := 0) (l := 17) (by kernel_rfl)
theorem spec_l02Int_eq (t_Kind : Int) (t_Size : Int) (t_Signed : Bool) (t_Big : Bool) (t_Names : List ByteArray) (t_Nums : List Int) (t_Members : List (ByteArray × Int × Ty_Type)) (t_Base : List Ty_Type) (t_Count : Int) :
    spec_l02Int t_Kind t_Size t_Signed t_Big t_Names t_Nums t_Members t_Base t_Count = (
      sbind (spec_l00Has ([1, 2, 4, 8] : List Int) t_Size) fun r1 =>
      sif (!r1) (some false) <|
      sif ((t_Size == 8))
       (sif (!t_Signed) (some false) <|
        sif ((t_Size == 1))
         (sif (t_Big) (some false) <|
          sif (((t_Names.length : Int) == 0))
           (sif (((t_Nums.length : Int) == 0))
             (sif (((t_Members.length : Int) == 0)) (sif (((t_Base.length : Int) == 0)) (some (t_Count == 0)) (some false)) (some false)) (some false)) (some false)) <|
        sif (((t_Names.length : Int) == 0))
         (sif (((t_Nums.length : Int) == 0))
           (sif (((t_Members.length : Int) == 0)) (sif (((t_Base.length : Int) == 0)) (some (t_Count == 0)) (some false)) (some false)) (some false)) (some false)) <|
      sif ((t_Size == 1))
       (sif (t_Big) (some false) <|
        sif (((t_Names.length : Int) == 0))
         (sif (((t_Nums.length : Int) == 0))
           (sif (((t_Members.length : Int) == 0)) (sif (((t_Base.length : Int) == 0)) (some (t_Count == 0)) (some false)) (some false)) (some false)) (some false)) <|
      sif (((t_Names.length : Int) == 0))
       (sif (((t_Nums.length : Int) == 0))
         (sif (((t_Members.length : Int) == 0)) (sif (((t_Base.length : Int) == 0)) (some (t_Count == 0)) (some false)) (some false)) (some false)) (some false)) := sem_eq (f := 123) (m := 0) rfl (by kernel_rfl)
theorem spec_l00Has_eq (list : List Int) (n : Int) :
    spec_l00Has list n = (
      spec_l00Has_l2 list n 0) := sem_eq (f := 137) (m := 0) rfl (by kernel_rfl)
theorem spec_l00Has_l2_eq (list : List Int) (n : Int) (i : Int) :
    spec_l00Has_l2 list n i = (
      sif (decide (i < (list.length : Int)))
       (sbind (idx list i) fun x1 =>
        sif ((x1 == n)) (some true) (spec_l00Has_l2 list n (wi64 (i + 1)))) (some false)) := seml_eq (f := 137) (m := 0) (l := 2) (by kernel_rfl)
theorem spec_l00In_eq (n : Int) (low : Int) (high : Int) :
    spec_l00In n low high = (
      sif (decide (n ≥ low)) (some (decide (n ≤ high))) (some false)) := sem_eq (f := 99) (m := 0) rfl (by kernel_rfl)
theorem spec_l02Enum_eq (t_Kind : Int) (t_Size : Int) (t_Signed : Bool) (t_Big : Bool) (t_Names : List ByteArray) (t_Nums : List Int) (t_Members : List (ByteArray × Int × Ty_Type)) (t_Base : List Ty_Type) (t_Count : Int) :
    spec_l02Enum t_Kind t_Size t_Signed t_Big t_Names t_Nums t_Members t_Base t_Count = (
      sif ((t_Size != 0)) (some false) <|
      sbind (spec_l02Plain t_Kind t_Size t_Signed t_Big t_Names t_Nums t_Members t_Base t_Count) fun r1 =>
      sif (!r1) (some false) <|
      sif (decide ((t_Members.length : Int) > 0)) (some false) <|
      sif ((t_Count != 0)) (some false) <|
      sif (((t_Base.length : Int) != 1)) (some false) <|
      sbind (idx t_Base 0) fun x2 =>
      sif ((x2.f_Kind != 1)) (some false) <|
      sbind (idx t_Base 0) fun x3 =>
      sbind (spec_l02Int x3.f_Kind x3.f_Size x3.f_Signed x3.f_Big x3.f_Names x3.f_Nums x3.f_Members x3.f_Base x3.f_Count) fun r4 =>
      sif (!r4) (some false) <|
      sif (decide ((t_Names.length : Int) < 1)) (some false) <|
      sif (decide ((t_Names.length : Int) > 6)) (some false) <|
      sif (((t_Nums.length : Int) != (t_Names.length : Int))) (some false) <|
      sbind (idx t_Base 0) fun x5 =>
      sbind (spec_l02Range x5.f_Kind x5.f_Size x5.f_Signed x5.f_Big x5.f_Names x5.f_Nums x5.f_Members x5.f_Base x5.f_Count) fun r6 =>
      spec_l02Enum_l7 r6.1 r6.2 0 t_Kind t_Size t_Signed t_Big t_Names t_Nums t_Members t_Base t_Count) := sem_eq (f := 124) (m := 0) rfl (by kernel_rfl)
theorem spec_l02Enum_l7_eq (low : Int) (high : Int) (i : Int) (t_Kind : Int) (t_Size : Int) (t_Signed : Bool) (t_Big : Bool) (t_Names : List ByteArray) (t_Nums : List Int) (t_Members : List (ByteArray × Int × Ty_Type)) (t_Base : List Ty_Type) (t_Count : Int) :
    spec_l02Enum_l7 low high i t_Kind t_Size t_Signed t_Big t_Names t_Nums t_Members t_Base t_Count = (
      sif (decide (i < (t_Names.length : Int)))
       (sbind (idx t_Names i) fun x1 =>
        sbind (spec_IsName x1) fun r2 =>
        sif (!r2) (some false) <|
        sbind (idx t_Nums i) fun x3 =>
        sbind (spec_l00In x3 low high) fun r4 =>
        sif (!r4) (some false) <|
        sif (decide (i > 0))
         (sbind (idx t_Nums (wi64 (i - 1))) fun x5 =>
          sbind (idx t_Nums i) fun x6 =>
          sif (decide (x5 ≥ x6)) (some false) <|
          spec_l02Enum_l12 low high i 0 t_Kind t_Size t_Signed t_Big t_Names t_Nums t_Members t_Base t_Count) <|
        spec_l02Enum_l12 low high i 0 t_Kind t_Size t_Signed t_Big t_Names t_Nums t_Members t_Base t_Count) (some true)) := seml_eq (f := 124) (m := 0) (l := 7) (by kernel_rfl)
theorem spec_l02Enum_l12_eq (low : Int) (high : Int) (i : Int) (k : Int) (t_Kind : Int) (t_Size : Int) (t_Signed : Bool) (t_Big : Bool) (t_Names : List ByteArray) (t_Nums : List Int) (t_Members : List (ByteArray × Int × Ty_Type)) (t_Base : List Ty_Type) (t_Count : Int) :
    spec_l02Enum_l12 low high i k t_Kind t_Size t_Signed t_Big t_Names t_Nums t_Members t_Base t_Count = (
      sif (decide (k < i))
       (sbind (idx t_Names k) fun x1 =>
        sbind (idx t_Names i) fun x2 =>
        sif (seq x1 x2) (some false) <|
        spec_l02Enum_l12 low high i (wi64 (k + 1)) t_Kind t_Size t_Signed t_Big t_Names t_Nums t_Members t_Base t_Count) <|
      spec_l02Enum_l7 low high (wi64 (i + 1)) t_Kind t_Size t_Signed t_Big t_Names t_Nums t_Members t_Base t_Count) := seml_eq (f := 124) (m := 0) (l := 12) (by kernel_rfl)
theorem spec_l02Plain_eq (t_Kind : Int) (t_Size : Int) (t_Signed : Bool) (t_Big : Bool) (t_Names : List ByteArray) (t_Nums : List Int) (t_Members : List (ByteArray × Int × Ty_Type)) (t_Base : List Ty_Type) (t_Count : Int) :
    spec_l02Plain t_Kind t_Size t_Signed t_Big t_Names t_Nums t_Members t_Base t_Count = (
      sif (!t_Signed) (some !t_Big) (some false)) := sem_eq (f := 127) (m := 0) rfl (by kernel_rfl)
theorem spec_l02Range_eq (t_Kind : Int) (t_Size : Int) (t_Signed : Bool) (t_Big : Bool) (t_Names : List ByteArray) (t_Nums : List Int) (t_Members : List (ByteArray × Int × Ty_Type)) (t_Base : List Ty_Type) (t_Count : Int) :
    spec_l02Range t_Kind t_Size t_Signed t_Big t_Names t_Nums t_Members t_Base t_Count = (
      sif (!t_Signed)
       (sif (decide (wu64 (wi64 (8 * t_Size)) < 0)) (none) <|
        some (0, wi64 ((wi64 (1 * 2 ^ (min (wu64 (wi64 (8 * t_Size))).toNat 64))) - 1))) <|
      sif (decide (wu64 ((wu64 (wi64 (8 * t_Size))) - 1) < 0)) (none) <|
      some (wi64 ((wi64 (0 - (wi64 ((wi64 (1 * 2 ^ (min (wu64 ((wu64 (wi64 (8 * t_Size))) - 1)).toNat 64))) - 1)))) - 1), wi64 ((wi64 (1 * 2 ^ (min (wu64 ((wu64 (wi64 (8 * t_Size))) - 1)).toNat 64))) - 1))) := sem_eq (f := 154) (m := 0) rfl (by kernel_rfl)
theorem spec_IsName_eq (s : ByteArray) :
    spec_IsName s = (
      sif (((s.size : Int) == 0)) (some false) <|
      sif (decide ((s.size : Int) > 12)) (some false) <|
      sbind (bidx s 0) fun b1 =>
      sbind (spec_l01Letter b1) fun r2 =>
      sif (!r2) (some false) (spec_IsName_l4 s 1)) := sem_eq (f := 100) (m := 0) rfl (by kernel_rfl)
theorem spec_IsName_l4_eq (s : ByteArray) (i : Int) :
    spec_IsName_l4 s i = (
      sif (decide (i < (s.size : Int)))
       (sbind (bidx s i) fun b1 =>
        sbind (spec_l01Letter b1) fun r2 =>
        sif (!r2)
         (sbind (bidx s i) fun b3 =>
          sif (decide (b3 ≥ 48))
           (sbind (bidx s i) fun b4 =>
            sif (!(decide (b4 ≤ 57)))
             (sbind (bidx s i) fun b5 =>
              sif ((b5 != 95)) (some false) (spec_IsName_l4 s (wi64 (i + 1)))) (spec_IsName_l4 s (wi64 (i + 1)))) <|
          sbind (bidx s i) fun b4 =>
          sif ((b4 != 95)) (some false) (spec_IsName_l4 s (wi64 (i + 1)))) (spec_IsName_l4 s (wi64 (i + 1)))) (some true)) := seml_eq (f := 100) (m := 0) (l := 4) (by kernel_rfl)
theorem spec_l01Letter_eq (c : Int) :
    spec_l01Letter c = (
      sif (decide (c ≥ 65))
       (sif (decide (c ≤ 90)) (some true) <|
        sif (decide (c ≥ 97)) (some (decide (c ≤ 122))) (some false)) <|
      sif (decide (c ≥ 97)) (some (decide (c ≤ 122))) (some false)) := sem_eq (f := 144) (m := 0) rfl (by kernel_rfl)
theorem spec_l02Compound_eq (t_Kind : Int) (t_Size : Int) (t_Signed : Bool) (t_Big : Bool) (t_Names : List ByteArray) (t_Nums : List Int) (t_Members : List (ByteArray × Int × Ty_Type)) (t_Base : List Ty_Type) (t_Count : Int) :
    spec_l02Compound t_Kind t_Size t_Signed t_Big t_Names t_Nums t_Members t_Base t_Count = (
      sbind (spec_l00In t_Size 1 24) fun r1 =>
      sif (!r1) (some false) <|
      sbind (spec_l02Plain t_Kind t_Size t_Signed t_Big t_Names t_Nums t_Members t_Base t_Count) fun r2 =>
      sif (!r2) (some false) <|
      sif (decide ((t_Names.length : Int) > 0)) (some false) <|
      sif (decide ((t_Nums.length : Int) > 0)) (some false) <|
      sif (decide ((t_Base.length : Int) > 0)) (some false) <|
      sif ((t_Count != 0)) (some false) <|
      sif (decide ((t_Members.length : Int) < 1)) (some false) <|
      sif (decide ((t_Members.length : Int) > 4)) (some false) <|
      spec_l02Compound_l7 0 0 t_Kind t_Size t_Signed t_Big t_Names t_Nums t_Members t_Base t_Count) := sem_eq (f := 125) (m := 0) rfl (by kernel_rfl)
theorem spec_l02Compound_l7_eq (end_ : Int) (i : Int) (t_Kind : Int) (t_Size : Int) (t_Signed : Bool) (t_Big : Bool) (t_Names : List ByteArray) (t_Nums : List Int) (t_Members : List (ByteArray × Int × Ty_Type)) (t_Base : List Ty_Type) (t_Count : Int) :
    spec_l02Compound_l7 end_ i t_Kind t_Size t_Signed t_Big t_Names t_Nums t_Members t_Base t_Count = (
      sif (decide (i < (t_Members.length : Int)))
       (sbind (idx t_Members i) fun x1 =>
        sbind (spec_IsName x1.1) fun r2 =>
        sif (!r2) (some false) <|
        sif (decide (x1.2.1 < end_)) (some false) <|
        sif (decide (x1.2.1 > 24)) (some false) <|
        sbind (spec_l02Ok x1.2.2.f_Kind x1.2.2.f_Size x1.2.2.f_Signed x1.2.2.f_Big x1.2.2.f_Names x1.2.2.f_Nums x1.2.2.f_Members x1.2.2.f_Base x1.2.2.f_Count) fun r3 =>
        sif (!r3) (some false) <|
        spec_l02Compound_l13 i 0 t_Kind t_Size t_Signed t_Big t_Names t_Nums t_Members t_Base t_Count x1.1 x1.2.1 x1.2.2.f_Kind x1.2.2.f_Size x1.2.2.f_Signed x1.2.2.f_Big x1.2.2.f_Names x1.2.2.f_Nums x1.2.2.f_Members x1.2.2.f_Base x1.2.2.f_Count) (some (decide (end_ ≤ t_Size)))) := seml_eq (f := 125) (m := 0) (l := 7) (by kernel_rfl)
theorem spec_l02Compound_l13_eq (i : Int) (k : Int) (t_Kind : Int) (t_Size : Int) (t_Signed : Bool) (t_Big : Bool) (t_Names : List ByteArray) (t_Nums : List Int) (t_Members : List (ByteArray × Int × Ty_Type)) (t_Base : List Ty_Type) (t_Count : Int) (m_Name : ByteArray) (m_Offset : Int) (m_Type_Kind : Int) (m_Type_Size : Int) (m_Type_Signed : Bool) (m_Type_Big : Bool) (m_Type_Names : List ByteArray) (m_Type_Nums : List Int) (m_Type_Members : List (ByteArray × Int × Ty_Type)) (m_Type_Base : List Ty_Type) (m_Type_Count : Int) :
    spec_l02Compound_l13 i k t_Kind t_Size t_Signed t_Big t_Names t_Nums t_Members t_Base t_Count m_Name m_Offset m_Type_Kind m_Type_Size m_Type_Signed m_Type_Big m_Type_Names m_Type_Nums m_Type_Members m_Type_Base m_Type_Count = (
      sif (decide (k < i))
       (sbind (idx t_Members k) fun x1 =>
        sif (seq x1.1 m_Name) (some false) <|
        spec_l02Compound_l13 i (wi64 (k + 1)) t_Kind t_Size t_Signed t_Big t_Names t_Nums t_Members t_Base t_Count m_Name m_Offset m_Type_Kind m_Type_Size m_Type_Signed m_Type_Big m_Type_Names m_Type_Nums m_Type_Members m_Type_Base m_Type_Count) <|
      sbind (spec_l02Size m_Type_Kind m_Type_Size m_Type_Signed m_Type_Big m_Type_Names m_Type_Nums m_Type_Members m_Type_Base m_Type_Count) fun r1 =>
      spec_l02Compound_l7 (wi64 (m_Offset + r1)) (wi64 (i + 1)) t_Kind t_Size t_Signed t_Big t_Names t_Nums t_Members t_Base t_Count) := seml_eq (f := 125) (m := 0) (l := 13) (by kernel_rfl)
theorem spec_l02Size_eq (t_Kind : Int) (t_Size : Int) (t_Signed : Bool) (t_Big : Bool) (t_Names : List ByteArray) (t_Nums : List Int) (t_Members : List (ByteArray × Int × Ty_Type)) (t_Base : List Ty_Type) (t_Count : Int) :
    spec_l02Size t_Kind t_Size t_Signed t_Big t_Names t_Nums t_Members t_Base t_Count = (
      sif ((t_Kind == 3))
       (sbind (idx t_Base 0) fun x1 =>
        some x1.f_Size) <|
      sif ((t_Kind == 5))
       (sbind (idx t_Base 0) fun x1 =>
        sbind (spec_l02Size x1.f_Kind x1.f_Size x1.f_Signed x1.f_Big x1.f_Names x1.f_Nums x1.f_Members x1.f_Base x1.f_Count) fun r2 =>
        some (wi64 (t_Count * r2))) (some t_Size)) := sem_eq (f := 81) (m := 0) rfl (by kernel_rfl)
theorem spec_l02Array_eq (t_Kind : Int) (t_Size : Int) (t_Signed : Bool) (t_Big : Bool) (t_Names : List ByteArray) (t_Nums : List Int) (t_Members : List (ByteArray × Int × Ty_Type)) (t_Base : List Ty_Type) (t_Count : Int) :
    spec_l02Array t_Kind t_Size t_Signed t_Big t_Names t_Nums t_Members t_Base t_Count = (
      sif ((t_Size != 0)) (some false) <|
      sbind (spec_l02Plain t_Kind t_Size t_Signed t_Big t_Names t_Nums t_Members t_Base t_Count) fun r1 =>
      sif (!r1) (some false) <|
      sif (decide ((t_Names.length : Int) > 0)) (some false) <|
      sif (decide ((t_Nums.length : Int) > 0)) (some false) <|
      sif (decide ((t_Members.length : Int) > 0)) (some false) <|
      sif (((t_Base.length : Int) != 1)) (some false) <|
      sbind (spec_l00In t_Count 1 4) fun r2 =>
      sif (r2)
       (sbind (idx t_Base 0) fun x3 =>
        sbind (spec_l02Ok x3.f_Kind x3.f_Size x3.f_Signed x3.f_Big x3.f_Names x3.f_Nums x3.f_Members x3.f_Base x3.f_Count) fun r4 =>
        some r4) (some false)) := sem_eq (f := 126) (m := 0) rfl (by kernel_rfl)
theorem spec_l02Depth_eq (t_Kind : Int) (t_Size : Int) (t_Signed : Bool) (t_Big : Bool) (t_Names : List ByteArray) (t_Nums : List Int) (t_Members : List (ByteArray × Int × Ty_Type)) (t_Base : List Ty_Type) (t_Count : Int) :
    spec_l02Depth t_Kind t_Size t_Signed t_Big t_Names t_Nums t_Members t_Base t_Count = (
      sif ((t_Kind == 4)) (spec_l02Depth_l5 0 0 t_Kind t_Size t_Signed t_Big t_Names t_Nums t_Members t_Base t_Count) <|
      sif ((t_Kind == 5))
       (sbind (idx t_Base 0) fun x1 =>
        sbind (spec_l02Depth x1.f_Kind x1.f_Size x1.f_Signed x1.f_Big x1.f_Names x1.f_Nums x1.f_Members x1.f_Base x1.f_Count) fun r2 =>
        some (wi64 (r2 + 1))) (some 1)) := sem_eq (f := 128) (m := 0) rfl (by kernel_rfl)
theorem spec_l02Depth_l5_eq (deep : Int) (i : Int) (t_Kind : Int) (t_Size : Int) (t_Signed : Bool) (t_Big : Bool) (t_Names : List ByteArray) (t_Nums : List Int) (t_Members : List (ByteArray × Int × Ty_Type)) (t_Base : List Ty_Type) (t_Count : Int) :
    spec_l02Depth_l5 deep i t_Kind t_Size t_Signed t_Big t_Names t_Nums t_Members t_Base t_Count = (
      sif (decide (i < (t_Members.length : Int)))
       (sbind (idx t_Members i) fun x1 =>
        sbind (spec_l02Depth x1.2.2.f_Kind x1.2.2.f_Size x1.2.2.f_Signed x1.2.2.f_Big x1.2.2.f_Names x1.2.2.f_Nums x1.2.2.f_Members x1.2.2.f_Base x1.2.2.f_Count) fun r2 =>
        sbind (spec_l00Max deep r2) fun r3 =>
        spec_l02Depth_l5 r3 (wi64 (i + 1)) t_Kind t_Size t_Signed t_Big t_Names t_Nums t_Members t_Base t_Count) (some (wi64 (deep + 1)))) := seml_eq (f := 128) (m := 0) (l := 5) (by kernel_rfl)
theorem spec_l00Max_eq (a : Int) (b : Int) :
    spec_l00Max a b = (
      sif (decide (a > b)) (some a) (some b)) := sem_eq (f := 155) (m := 0) rfl (by kernel_rfl)
theorem spec_l02Encode_eq (t_Kind : Int) (t_Size : Int) (t_Signed : Bool) (t_Big : Bool) (t_Names : List ByteArray) (t_Nums : List Int) (t_Members : List (ByteArray × Int × Ty_Type)) (t_Base : List Ty_Type) (t_Count : Int) :
    spec_l02Encode t_Kind t_Size t_Signed t_Big t_Names t_Nums t_Members t_Base t_Count = (
      sbind (spec_l02Byte t_Kind) fun r1 =>
      sif ((t_Kind == 1))
       (sif (t_Signed)
         (sif (t_Big)
           (sbind (spec_l02Byte t_Size) fun r2 =>
            sif (joins r1 r2)
             (sbind (spec_l02Byte 3) fun r3 =>
              sif (joins (r1 ++ r2) r3) (some ((r1 ++ r2) ++ r3)) (none)) (none)) <|
          sbind (spec_l02Byte t_Size) fun r2 =>
          sif (joins r1 r2)
           (sbind (spec_l02Byte 1) fun r3 =>
            sif (joins (r1 ++ r2) r3) (some ((r1 ++ r2) ++ r3)) (none)) (none)) <|
        sif (t_Big)
         (sbind (spec_l02Byte t_Size) fun r2 =>
          sif (joins r1 r2)
           (sbind (spec_l02Byte 2) fun r3 =>
            sif (joins (r1 ++ r2) r3) (some ((r1 ++ r2) ++ r3)) (none)) (none)) <|
        sbind (spec_l02Byte t_Size) fun r2 =>
        sif (joins r1 r2)
         (sbind (spec_l02Byte 0) fun r3 =>
          sif (joins (r1 ++ r2) r3) (some ((r1 ++ r2) ++ r3)) (none)) (none)) <|
      sif ((t_Kind == 2))
       (sbind (spec_l02Byte t_Size) fun r2 =>
        sif (joins r1 r2) (some (r1 ++ r2)) (none)) <|
      sif ((t_Kind == 3))
       (sbind (idx t_Base 0) fun x2 =>
        sbind (spec_l02Encode x2.f_Kind x2.f_Size x2.f_Signed x2.f_Big x2.f_Names x2.f_Nums x2.f_Members x2.f_Base x2.f_Count) fun r3 =>
        sbind (spec_l02Byte (t_Names.length : Int)) fun r4 =>
        sif (joins r3 r4)
         (sif (joins r1 (r3 ++ r4))
           (spec_l02Encode_l15 (r1 ++ (r3 ++ r4)) 0 t_Kind t_Size t_Signed t_Big t_Names t_Nums t_Members t_Base t_Count) (none)) (none)) <|
      sif ((t_Kind == 4))
       (sbind (spec_l02Byte t_Size) fun r2 =>
        sbind (spec_l02Byte (t_Members.length : Int)) fun r3 =>
        sif (joins r2 r3)
         (sif (joins r1 (r2 ++ r3))
           (spec_l02Encode_l21 (r1 ++ (r2 ++ r3)) 0 t_Kind t_Size t_Signed t_Big t_Names t_Nums t_Members t_Base t_Count) (none)) (none)) <|
      sif ((t_Kind == 5))
       (sbind (spec_l02Byte t_Count) fun r2 =>
        sbind (idx t_Base 0) fun x3 =>
        sbind (spec_l02Encode x3.f_Kind x3.f_Size x3.f_Signed x3.f_Big x3.f_Names x3.f_Nums x3.f_Members x3.f_Base x3.f_Count) fun r4 =>
        sif (joins r2 r4) (sif (joins r1 (r2 ++ r4)) (some (r1 ++ (r2 ++ r4))) (none)) (none)) (some r1)) := sem_eq (f := 104) (m := 0) rfl (by kernel_rfl)
theorem spec_l02Encode_l15_eq (out : ByteArray) (i : Int) (t_Kind : Int) (t_Size : Int) (t_Signed : Bool) (t_Big : Bool) (t_Names : List ByteArray) (t_Nums : List Int) (t_Members : List (ByteArray × Int × Ty_Type)) (t_Base : List Ty_Type) (t_Count : Int) :
    spec_l02Encode_l15 out i t_Kind t_Size t_Signed t_Big t_Names t_Nums t_Members t_Base t_Count = (
      sif (decide (i < (t_Names.length : Int)))
       (sbind (idx t_Names i) fun x1 =>
        sbind (spec_l02Byte (x1.size : Int)) fun r2 =>
        sbind (idx t_Names i) fun x3 =>
        sif (joins r2 x3)
         (sbind (idx t_Nums i) fun x4 =>
          sbind (spec_l02Put x4 8 false) fun r5 =>
          sif (joins (r2 ++ x3) r5)
           (sif (joins out ((r2 ++ x3) ++ r5))
             (spec_l02Encode_l15 (out ++ ((r2 ++ x3) ++ r5)) (wi64 (i + 1)) t_Kind t_Size t_Signed t_Big t_Names t_Nums t_Members t_Base t_Count) (none)) (none)) (none)) (some out)) := seml_eq (f := 104) (m := 0) (l := 15) (by kernel_rfl)
theorem spec_l02Encode_l21_eq (out : ByteArray) (i : Int) (t_Kind : Int) (t_Size : Int) (t_Signed : Bool) (t_Big : Bool) (t_Names : List ByteArray) (t_Nums : List Int) (t_Members : List (ByteArray × Int × Ty_Type)) (t_Base : List Ty_Type) (t_Count : Int) :
    spec_l02Encode_l21 out i t_Kind t_Size t_Signed t_Big t_Names t_Nums t_Members t_Base t_Count = (
      sif (decide (i < (t_Members.length : Int)))
       (sbind (idx t_Members i) fun x1 =>
        sbind (spec_l02Byte (x1.1.size : Int)) fun r2 =>
        sif (joins r2 x1.1)
         (sbind (spec_l02Byte x1.2.1) fun r3 =>
          sif (joins (r2 ++ x1.1) r3)
           (sbind (spec_l02Encode x1.2.2.f_Kind x1.2.2.f_Size x1.2.2.f_Signed x1.2.2.f_Big x1.2.2.f_Names x1.2.2.f_Nums x1.2.2.f_Members x1.2.2.f_Base x1.2.2.f_Count) fun r4 =>
            sif (joins ((r2 ++ x1.1) ++ r3) r4)
             (sif (joins out (((r2 ++ x1.1) ++ r3) ++ r4))
               (spec_l02Encode_l21 (out ++ (((r2 ++ x1.1) ++ r3) ++ r4)) (wi64 (i + 1)) t_Kind t_Size t_Signed t_Big t_Names t_Nums t_Members t_Base t_Count) (none)) (none)) (none)) (none)) (some out)) := seml_eq (f := 104) (m := 0) (l := 21) (by kernel_rfl)
theorem spec_l02Byte_eq (n : Int) :
    spec_l02Byte n = (
      some (toB [wu8 n])) := sem_eq (f := 105) (m := 0) rfl (by kernel_rfl)
theorem spec_l02Put_eq (n : Int) (size : Int) (big : Bool) :
    spec_l02Put n size big = (
      spec_l02Put_l3 n size big (bs []) 0) := sem_eq (f := 106) (m := 0) rfl (by kernel_rfl)
theorem spec_l02Put_l3_eq (n : Int) (size : Int) (big : Bool) (out : ByteArray) (k : Int) :
    spec_l02Put_l3 n size big out k = (
      sif (decide (k < size))
       (sif (decide (wu64 (wi64 (8 * k)) < 0)) (none) <|
        sbind (spec_l02Byte (bits .and .i64 (Int.fdiv n (2 ^ (min (wu64 (wi64 (8 * k))).toNat 64))) 255)) fun r1 =>
        sif (big) (sif (joins r1 out) (spec_l02Put_l3 n size big (r1 ++ out) (wi64 (k + 1))) (none)) <|
        sif (joins out r1) (spec_l02Put_l3 n size big (out ++ r1) (wi64 (k + 1))) (none)) (some out)) := seml_eq (f := 106) (m := 0) (l := 3) (by kernel_rfl)
theorem spec_l05Space_eq (s_Dims : List Int) (s_Max : List Int) :
    spec_l05Space s_Dims s_Max = (
      sbind (spec_l05Dims s_Dims) fun r1 =>
      sif (!r1) (some false) <|
      sif (((s_Max.length : Int) != (s_Dims.length : Int))) (some false) (spec_l05Space_l4 0 s_Dims s_Max)) := sem_eq (f := 107) (m := 0) rfl (by kernel_rfl)
theorem spec_l05Space_l4_eq (i : Int) (s_Dims : List Int) (s_Max : List Int) :
    spec_l05Space_l4 i s_Dims s_Max = (
      sif (decide (i < (s_Max.length : Int)))
       (sbind (idx s_Max i) fun x1 =>
        sif ((x1 != (-1)))
         (sbind (idx s_Max i) fun x2 =>
          sbind (idx s_Dims i) fun x3 =>
          sbind (spec_l00In x2 x3 40) fun r4 =>
          sif (!r4) (some false) (spec_l05Space_l4 (wi64 (i + 1)) s_Dims s_Max)) (spec_l05Space_l4 (wi64 (i + 1)) s_Dims s_Max)) (some true)) := seml_eq (f := 107) (m := 0) (l := 4) (by kernel_rfl)
theorem spec_l05Dims_eq (dims : List Int) :
    spec_l05Dims dims = (
      sif (decide ((dims.length : Int) > 3)) (some false) (spec_l05Dims_l5 dims 1 0)) := sem_eq (f := 79) (m := 0) rfl (by kernel_rfl)
theorem spec_l05Dims_l5_eq (dims : List Int) (n : Int) (i : Int) :
    spec_l05Dims_l5 dims n i = (
      sif (decide (i < (dims.length : Int)))
       (sbind (idx dims i) fun x1 =>
        sbind (spec_l00In x1 0 40) fun r2 =>
        sif (!r2) (some false) <|
        sbind (idx dims i) fun x3 =>
        spec_l05Dims_l5 dims (wi64 (n * x3)) (wi64 (i + 1))) (some (decide (n ≤ 600)))) := seml_eq (f := 79) (m := 0) (l := 5) (by kernel_rfl)
theorem spec_l20Ok_eq (dims : List Int) (chunk : List Int) :
    spec_l20Ok dims chunk = (
      sbind (spec_l05Dims dims) fun r1 =>
      sif (!r1) (some false) <|
      sif (((chunk.length : Int) != (dims.length : Int))) (some false) (spec_l20Ok_l5 dims chunk 1 0)) := sem_eq (f := 108) (m := 0) rfl (by kernel_rfl)
theorem spec_l20Ok_l5_eq (dims : List Int) (chunk : List Int) (n : Int) (i : Int) :
    spec_l20Ok_l5 dims chunk n i = (
      sif (decide (i < (chunk.length : Int)))
       (sbind (idx chunk i) fun x1 =>
        sbind (spec_l00In x1 1 40) fun r2 =>
        sif (!r2) (some false) <|
        sbind (idx chunk i) fun x3 =>
        spec_l20Ok_l5 dims chunk (wi64 (n * x3)) (wi64 (i + 1))) <|
      sbind (spec_l20Grid dims chunk) fun r1 =>
      spec_l20Ok_l12 n 0 r1) := seml_eq (f := 108) (m := 0) (l := 5) (by kernel_rfl)
theorem spec_l20Ok_l12_eq (n : Int) (i : Int) (grid : List Int) :
    spec_l20Ok_l12 n i grid = (
      sif (decide (i < (grid.length : Int)))
       (sif (lt3 0 i (grid.length : Int))
         (sbind (grid[i.toNat]?) fun x1 =>
          sif (decide (x1 > 16)) (some false) (spec_l20Ok_l12 n (wi64 (i + 1)) grid)) (none)) <|
      sif (decide (n ≤ 64))
       (sbind (spec_l05Count grid) fun r1 =>
        some (decide (r1 ≤ 256))) (some false)) := seml_eq (f := 108) (m := 0) (l := 12) (by kernel_rfl)
theorem spec_l20Grid_eq (dims : List Int) (chunk : List Int) :
    spec_l20Grid dims chunk = (
      spec_l20Grid_l3 dims chunk 0 ([] : List Int)) := sem_eq (f := 146) (m := 0) rfl (by kernel_rfl)
theorem spec_l20Grid_l3_eq (dims : List Int) (chunk : List Int) (i : Int) (out : List Int) :
    spec_l20Grid_l3 dims chunk i out = (
      sif (decide (i < (dims.length : Int)))
       (sbind (idx dims i) fun x1 =>
        sbind (idx chunk i) fun x2 =>
        sbind (idx chunk i) fun x3 =>
        sif (decide (x3 = 0)) (none) <|
        sif (room (out.length + 1) 8)
         (spec_l20Grid_l3 dims chunk (wi64 (i + 1)) (out ++ [wi64 (Int.tdiv (wi64 ((wi64 (x1 + x2)) - 1)) x3)])) (none)) (some out)) := seml_eq (f := 146) (m := 0) (l := 3) (by kernel_rfl)
theorem spec_l05Count_eq (dims : List Int) :
    spec_l05Count dims = (
      spec_l05Count_l3 dims 1 0) := sem_eq (f := 80) (m := 0) rfl (by kernel_rfl)
theorem spec_l05Count_l3_eq (dims : List Int) (n : Int) (i : Int) :
    spec_l05Count_l3 dims n i = (
      sif (decide (i < (dims.length : Int)))
       (sbind (idx dims i) fun x1 =>
        spec_l05Count_l3 dims (wi64 (n * x1)) (wi64 (i + 1))) (some n)) := seml_eq (f := 80) (m := 0) (l := 3) (by kernel_rfl)
theorem spec_l21Chunk_eq (d_Type_Kind : Int) (d_Type_Size : Int) (d_Type_Signed : Bool) (d_Type_Big : Bool) (d_Type_Names : List ByteArray) (d_Type_Nums : List Int) (d_Type_Members : List (ByteArray × Int × Ty_Type)) (d_Type_Base : List Ty_Type) (d_Type_Count : Int) (d_Space_Dims : List Int) (d_Space_Max : List Int) (d_Chunk : List Int) (d_Filters : List (Int × Int × Bool)) (d_Fill : ByteArray) (d_Index : Int) :
    spec_l21Chunk d_Type_Kind d_Type_Size d_Type_Signed d_Type_Big d_Type_Names d_Type_Nums d_Type_Members d_Type_Base d_Type_Count d_Space_Dims d_Space_Max d_Chunk d_Filters d_Fill d_Index = (
      sbind (spec_l05Count d_Chunk) fun r1 =>
      sbind (spec_l02Size d_Type_Kind d_Type_Size d_Type_Signed d_Type_Big d_Type_Names d_Type_Nums d_Type_Members d_Type_Base d_Type_Count) fun r2 =>
      some (wi64 (r1 * r2))) := sem_eq (f := 109) (m := 0) rfl (by kernel_rfl)
theorem spec_l19Ok_eq (list : List (Int × Int × Bool)) :
    spec_l19Ok list = (
      spec_l19Ok_l2 list 0) := sem_eq (f := 110) (m := 0) rfl (by kernel_rfl)
theorem spec_l19Ok_l2_eq (list : List (Int × Int × Bool)) (i : Int) :
    spec_l19Ok_l2 list i = (
      sif (decide (i < (list.length : Int)))
       (sbind (idx list i) fun x1 =>
        sbind (spec_l18Ok x1.1 x1.2.1 x1.2.2) fun r2 =>
        sif (!r2) (some false) (spec_l19Ok_l2 list (wi64 (i + 1)))) (some (decide ((list.length : Int) ≤ 4)))) := seml_eq (f := 110) (m := 0) (l := 2) (by kernel_rfl)
theorem spec_l18Ok_eq (f_Kind : Int) (f_Param : Int) (f_Optional : Bool) :
    spec_l18Ok f_Kind f_Param f_Optional = (
      sif ((f_Kind == 1))
       (sbind (spec_l00In f_Param 1 24) fun r1 =>
        sif (r1) (some !f_Optional) (some false)) <|
      sif ((f_Kind == 2))
       (sif ((f_Param == 1)) (some !f_Optional) <|
        sif ((f_Param == 2)) (some !f_Optional) <|
        sif ((f_Param == 4)) (some !f_Optional) (some false)) <|
      sif ((f_Kind == 3))
       (sif ((f_Kind == 3)) (some (f_Param == 0)) <|
        sif ((f_Kind == 5)) (sif ((f_Param == 0)) (some !f_Optional) (some false)) (some false)) <|
      sif ((f_Kind == 4)) (some (f_Param == 0)) <|
      sif ((f_Kind == 5)) (sif ((f_Param == 0)) (some !f_Optional) (some false)) (some false)) := sem_eq (f := 147) (m := 0) rfl (by kernel_rfl)
theorem spec_l03Ok_eq (t_Kind : Int) (t_Size : Int) (t_Signed : Bool) (t_Big : Bool) (t_Names : List ByteArray) (t_Nums : List Int) (t_Members : List (ByteArray × Int × Ty_Type)) (t_Base : List Ty_Type) (t_Count : Int) (b : ByteArray) :
    spec_l03Ok t_Kind t_Size t_Signed t_Big t_Names t_Nums t_Members t_Base t_Count b = (
      sbind (spec_l02Size t_Kind t_Size t_Signed t_Big t_Names t_Nums t_Members t_Base t_Count) fun r1 =>
      sif (((b.size : Int) != r1)) (some false) <|
      sif ((t_Kind == 2))
       (sbind (spec_l03Text b) fun r2 =>
        some r2) <|
      sif ((t_Kind == 3))
       (sbind (idx t_Base 0) fun x2 =>
        sbind (spec_l03Number x2.f_Kind x2.f_Size x2.f_Signed x2.f_Big x2.f_Names x2.f_Nums x2.f_Members x2.f_Base x2.f_Count b) fun r3 =>
        sbind (spec_l00Has t_Nums r3) fun r4 =>
        some r4) <|
      sif ((t_Kind == 4))
       (sbind (spec_l03Compound t_Kind t_Size t_Signed t_Big t_Names t_Nums t_Members t_Base t_Count b) fun r2 =>
        some r2) <|
      sif ((t_Kind == 5))
       (sbind (idx t_Base 0) fun x2 =>
        sbind (spec_l02Size x2.f_Kind x2.f_Size x2.f_Signed x2.f_Big x2.f_Names x2.f_Nums x2.f_Members x2.f_Base x2.f_Count) fun r3 =>
        spec_l03Ok_l13 b r3 0 t_Kind t_Size t_Signed t_Big t_Names t_Nums t_Members t_Base t_Count) (some true)) := sem_eq (f := 86) (m := 0) rfl (by kernel_rfl)
theorem spec_l03Ok_l13_eq (b : ByteArray) (size : Int) (k : Int) (t_Kind : Int) (t_Size : Int) (t_Signed : Bool) (t_Big : Bool) (t_Names : List ByteArray) (t_Nums : List Int) (t_Members : List (ByteArray × Int × Ty_Type)) (t_Base : List Ty_Type) (t_Count : Int) :
    spec_l03Ok_l13 b size k t_Kind t_Size t_Signed t_Big t_Names t_Nums t_Members t_Base t_Count = (
      sif (decide (k < t_Count))
       (sbind (idx t_Base 0) fun x1 =>
        sif (le3 0 (wi64 ((wi64 (k + 1)) * size)) (b.size : Int))
         (sif (le3 0 (wi64 (k * size)) (wi64 ((wi64 (k + 1)) * size)))
           (sbind (spec_l03Ok x1.f_Kind x1.f_Size x1.f_Signed x1.f_Big x1.f_Names x1.f_Nums x1.f_Members x1.f_Base x1.f_Count (b.extract ((wi64 (k * size)).toNat) ((wi64 ((wi64 (k + 1)) * size)).toNat))) fun r2 =>
            sif (!r2) (some false) <|
            spec_l03Ok_l13 b size (wi64 (k + 1)) t_Kind t_Size t_Signed t_Big t_Names t_Nums t_Members t_Base t_Count) (none)) (none)) (some true)) := seml_eq (f := 86) (m := 0) (l := 13) (by kernel_rfl)
theorem spec_l03Text_eq (b : ByteArray) :
    spec_l03Text b = (
      spec_l03Text_l3 b false 0) := sem_eq (f := 136) (m := 0) rfl (by kernel_rfl)
theorem spec_l03Text_l3_eq (b : ByteArray) (end_ : Bool) (i : Int) :
    spec_l03Text_l3 b end_ i = (
      sif (decide (i < (b.size : Int)))
       (sif (end_)
         (sbind (bidx b i) fun b1 =>
          sif ((b1 != 0)) (some false) <|
          sif (end_) (spec_l03Text_l3 b true (wi64 (i + 1))) <|
          sbind (bidx b i) fun b2 =>
          spec_l03Text_l3 b (b2 == 0) (wi64 (i + 1))) <|
        sif (end_) (spec_l03Text_l3 b true (wi64 (i + 1))) <|
        sbind (bidx b i) fun b1 =>
        spec_l03Text_l3 b (b1 == 0) (wi64 (i + 1))) (some true)) := seml_eq (f := 136) (m := 0) (l := 3) (by kernel_rfl)
theorem spec_l03Number_eq (t_Kind : Int) (t_Size : Int) (t_Signed : Bool) (t_Big : Bool) (t_Names : List ByteArray) (t_Nums : List Int) (t_Members : List (ByteArray × Int × Ty_Type)) (t_Base : List Ty_Type) (t_Count : Int) (b : ByteArray) :
    spec_l03Number t_Kind t_Size t_Signed t_Big t_Names t_Nums t_Members t_Base t_Count b = (
      spec_l03Number_l3 b 0 0 t_Kind t_Size t_Signed t_Big t_Names t_Nums t_Members t_Base t_Count) := sem_eq (f := 88) (m := 0) rfl (by kernel_rfl)
theorem spec_l03Number_l3_eq (b : ByteArray) (n : Int) (i : Int) (t_Kind : Int) (t_Size : Int) (t_Signed : Bool) (t_Big : Bool) (t_Names : List ByteArray) (t_Nums : List Int) (t_Members : List (ByteArray × Int × Ty_Type)) (t_Base : List Ty_Type) (t_Count : Int) :
    spec_l03Number_l3 b n i t_Kind t_Size t_Signed t_Big t_Names t_Nums t_Members t_Base t_Count = (
      sif (decide (i < (b.size : Int)))
       (sif (t_Big)
         (sbind (bidx b i) fun b1 =>
          spec_l03Number_l3 b (bits .or .i64 (wi64 (n * 2 ^ 8)) (wi64 b1)) (wi64 (i + 1)) t_Kind t_Size t_Signed t_Big t_Names t_Nums t_Members t_Base t_Count) <|
        sbind (bidx b (wi64 ((wi64 ((b.size : Int) - 1)) - i))) fun b1 =>
        spec_l03Number_l3 b (bits .or .i64 (wi64 (n * 2 ^ 8)) (wi64 b1)) (wi64 (i + 1)) t_Kind t_Size t_Signed t_Big t_Names t_Nums t_Members t_Base t_Count) <|
      sif (t_Signed)
       (sif (decide (t_Size < 8))
         (sif (decide (wu64 (wi64 ((wi64 (8 * t_Size)) - 1)) < 0)) (none) <|
          sif (decide (n ≥ wi64 (1 * 2 ^ (min (wu64 (wi64 ((wi64 (8 * t_Size)) - 1))).toNat 64))))
           (sif (decide (wu64 (wi64 (8 * t_Size)) < 0)) (none) <|
            some (wi64 (n - (wi64 (1 * 2 ^ (min (wu64 (wi64 (8 * t_Size))).toNat 64)))))) (some n)) (some n)) (some n)) := seml_eq (f := 88) (m := 0) (l := 3) (by kernel_rfl)
theorem spec_l03Compound_eq (t_Kind : Int) (t_Size : Int) (t_Signed : Bool) (t_Big : Bool) (t_Names : List ByteArray) (t_Nums : List Int) (t_Members : List (ByteArray × Int × Ty_Type)) (t_Base : List Ty_Type) (t_Count : Int) (b : ByteArray) :
    spec_l03Compound t_Kind t_Size t_Signed t_Big t_Names t_Nums t_Members t_Base t_Count b = (
      spec_l03Compound_l3 b 0 0 t_Kind t_Size t_Signed t_Big t_Names t_Nums t_Members t_Base t_Count) := sem_eq (f := 138) (m := 0) rfl (by kernel_rfl)
theorem spec_l03Compound_l3_eq (b : ByteArray) (at_ : Int) (i : Int) (t_Kind : Int) (t_Size : Int) (t_Signed : Bool) (t_Big : Bool) (t_Names : List ByteArray) (t_Nums : List Int) (t_Members : List (ByteArray × Int × Ty_Type)) (t_Base : List Ty_Type) (t_Count : Int) :
    spec_l03Compound_l3 b at_ i t_Kind t_Size t_Signed t_Big t_Names t_Nums t_Members t_Base t_Count = (
      sif (decide (i ≤ (t_Members.length : Int)))
       (sif (decide (i < (t_Members.length : Int)))
         (sbind (idx t_Members i) fun x1 =>
          spec_l03Compound_l8 b at_ i x1.2.1 t_Kind t_Size t_Signed t_Big t_Names t_Nums t_Members t_Base t_Count) <|
        spec_l03Compound_l8 b at_ i t_Size t_Kind t_Size t_Signed t_Big t_Names t_Nums t_Members t_Base t_Count) (some true)) := seml_eq (f := 138) (m := 0) (l := 3) (by kernel_rfl)
theorem spec_l03Compound_l8_eq (b : ByteArray) (at_ : Int) (i : Int) (to_ : Int) (t_Kind : Int) (t_Size : Int) (t_Signed : Bool) (t_Big : Bool) (t_Names : List ByteArray) (t_Nums : List Int) (t_Members : List (ByteArray × Int × Ty_Type)) (t_Base : List Ty_Type) (t_Count : Int) :
    spec_l03Compound_l8 b at_ i to_ t_Kind t_Size t_Signed t_Big t_Names t_Nums t_Members t_Base t_Count = (
      sif (decide (at_ < to_))
       (sbind (bidx b at_) fun b1 =>
        sif ((b1 != 0)) (some false) <|
        spec_l03Compound_l8 b (wi64 (at_ + 1)) i to_ t_Kind t_Size t_Signed t_Big t_Names t_Nums t_Members t_Base t_Count) <|
      sif (decide (i < (t_Members.length : Int)))
       (sbind (idx t_Members i) fun x1 =>
        sbind (spec_l02Size x1.2.2.f_Kind x1.2.2.f_Size x1.2.2.f_Signed x1.2.2.f_Big x1.2.2.f_Names x1.2.2.f_Nums x1.2.2.f_Members x1.2.2.f_Base x1.2.2.f_Count) fun r2 =>
        sbind (idx t_Members i) fun x3 =>
        sif (le3 0 (wi64 (at_ + r2)) (b.size : Int))
         (sif (le3 0 to_ (wi64 (at_ + r2)))
           (sbind (spec_l03Ok x3.2.2.f_Kind x3.2.2.f_Size x3.2.2.f_Signed x3.2.2.f_Big x3.2.2.f_Names x3.2.2.f_Nums x3.2.2.f_Members x3.2.2.f_Base x3.2.2.f_Count (b.extract to_.toNat ((wi64 (at_ + r2)).toNat))) fun r4 =>
            sif (!r4) (some false) <|
            spec_l03Compound_l3 b (wi64 (at_ + r2)) (wi64 (i + 1)) t_Kind t_Size t_Signed t_Big t_Names t_Nums t_Members t_Base t_Count) (none)) (none)) <|
      spec_l03Compound_l3 b at_ (wi64 (i + 1)) t_Kind t_Size t_Signed t_Big t_Names t_Nums t_Members t_Base t_Count) := seml_eq (f := 138) (m := 0) (l := 8) (by kernel_rfl)
theorem impl_ValidDataset_eq (d_Type_Kind : Int) (d_Type_Size : Int) (d_Type_Signed : Bool) (d_Type_Big : Bool) (d_Type_Names : List ByteArray) (d_Type_Nums : List Int) (d_Type_Members : List (ByteArray × Int × Ty_Type)) (d_Type_Base : List Ty_Type) (d_Type_Count : Int) (d_Space_Dims : List Int) (d_Space_Max : List Int) (d_Chunk : List Int) (d_Filters : List (Int × Int × Bool)) (d_Fill : ByteArray) (d_Index : Int) :
    impl_ValidDataset d_Type_Kind d_Type_Size d_Type_Signed d_Type_Big d_Type_Names d_Type_Nums d_Type_Members d_Type_Base d_Type_Count d_Space_Dims d_Space_Max d_Chunk d_Filters d_Fill d_Index = (
      sbind (impl_typeFits d_Type_Kind d_Type_Size d_Type_Signed d_Type_Big d_Type_Names d_Type_Nums d_Type_Members d_Type_Base d_Type_Count) fun r1 =>
      sif (r1)
       (sbind (impl_ValidSpace d_Space_Dims d_Space_Max) fun r2 =>
        sif (r2)
         (sbind (impl_ValidChunk d_Space_Dims d_Chunk) fun r3 =>
          sif (r3)
           (sbind (impl_product d_Chunk) fun r4 =>
            sbind (impl_Type_size d_Type_Kind d_Type_Size d_Type_Signed d_Type_Big d_Type_Names d_Type_Nums d_Type_Members d_Type_Base d_Type_Count) fun r5 =>
            sif (decide (wi64 (r4 * r5) ≤ 512))
             (sbind (impl_ValidPipeline d_Filters) fun r6 =>
              sif (r6)
               (sbind (impl_Type_isElement d_Type_Kind d_Type_Size d_Type_Signed d_Type_Big d_Type_Names d_Type_Nums d_Type_Members d_Type_Base d_Type_Count d_Fill) fun r7 =>
                sif (r7)
                 (sbind (impl_within d_Index 0 255) fun r8 =>
                  some r8) (some false)) (some false)) (some false)) (some false)) (some false)) (some false)) := sem_eq (f := 33) (m := 0) rfl (by kernel_rfl)
theorem impl_typeFits_eq (t_Kind : Int) (t_Size : Int) (t_Signed : Bool) (t_Big : Bool) (t_Names : List ByteArray) (t_Nums : List Int) (t_Members : List (ByteArray × Int × Ty_Type)) (t_Base : List Ty_Type) (t_Count : Int) :
    impl_typeFits t_Kind t_Size t_Signed t_Big t_Names t_Nums t_Members t_Base t_Count = (
      sbind (impl_ValidType t_Kind t_Size t_Signed t_Big t_Names t_Nums t_Members t_Base t_Count) fun r1 =>
      sif (r1)
       (sbind (impl_Type_encode t_Kind t_Size t_Signed t_Big t_Names t_Nums t_Members t_Base t_Count) fun r2 =>
        some (decide ((r2.size : Int) ≤ 200))) (some false)) := sem_eq (f := 69) (m := 0) rfl (by kernel_rfl)
theorem impl_ValidType_eq (t_Kind : Int) (t_Size : Int) (t_Signed : Bool) (t_Big : Bool) (t_Names : List ByteArray) (t_Nums : List Int) (t_Members : List (ByteArray × Int × Ty_Type)) (t_Base : List Ty_Type) (t_Count : Int) :
    impl_ValidType t_Kind t_Size t_Signed t_Big t_Names t_Nums t_Members t_Base t_Count = (
      sbind (impl_Type_valid t_Kind t_Size t_Signed t_Big t_Names t_Nums t_Members t_Base t_Count 3) fun r1 =>
      some r1) := sem_eq (f := 37) (m := 0) rfl (by kernel_rfl)
theorem impl_Type_valid_eq (t_Kind : Int) (t_Size : Int) (t_Signed : Bool) (t_Big : Bool) (t_Names : List ByteArray) (t_Nums : List Int) (t_Members : List (ByteArray × Int × Ty_Type)) (t_Base : List Ty_Type) (t_Count : Int) (depth : Int) :
    impl_Type_valid t_Kind t_Size t_Signed t_Big t_Names t_Nums t_Members t_Base t_Count depth = (
      sif (decide (depth < 1)) (some false) <|
      sbind (impl_Type_only t_Kind t_Size t_Signed t_Big t_Names t_Nums t_Members t_Base t_Count) fun r1 =>
      sbind (impl_SameType t_Kind t_Size t_Signed t_Big t_Names t_Nums t_Members t_Base t_Count r1.1 r1.2.1 r1.2.2.1 r1.2.2.2.1 r1.2.2.2.2.1 r1.2.2.2.2.2.1 r1.2.2.2.2.2.2.1 r1.2.2.2.2.2.2.2.1 r1.2.2.2.2.2.2.2.2) fun r2 =>
      sif (!r2) (some false) <|
      sif ((t_Kind == 1))
       (sbind (impl_Type_intOk t_Kind t_Size t_Signed t_Big t_Names t_Nums t_Members t_Base t_Count) fun r3 =>
        some r3) <|
      sif ((t_Kind == 2))
       (sbind (impl_within t_Size 1 16) fun r3 =>
        some r3) <|
      sif ((t_Kind == 3))
       (sbind (impl_Type_enumOk t_Kind t_Size t_Signed t_Big t_Names t_Nums t_Members t_Base t_Count) fun r3 =>
        some r3) <|
      sif ((t_Kind == 4))
       (sbind (impl_Type_compoundOk t_Kind t_Size t_Signed t_Big t_Names t_Nums t_Members t_Base t_Count (wi64 (depth - 1))) fun r3 =>
        some r3) <|
      sif ((t_Kind == 5))
       (sbind (impl_within t_Count 1 4) fun r3 =>
        sif (r3)
         (sif (((t_Base.length : Int) == 1))
           (sbind (idx t_Base 0) fun x4 =>
            sbind (impl_Type_valid x4.f_Kind x4.f_Size x4.f_Signed x4.f_Big x4.f_Names x4.f_Nums x4.f_Members x4.f_Base x4.f_Count (wi64 (depth - 1))) fun r5 =>
            sif (r5)
             (sbind (impl_Type_size t_Kind t_Size t_Signed t_Big t_Names t_Nums t_Members t_Base t_Count) fun r6 =>
              some (decide (r6 ≤ 24))) (some false)) (some false)) (some false)) <|
      sif ((t_Kind == 6)) (some (t_Size == 2)) (some false)) := sem_eq (f := 83) (m := 0) rfl (by kernel_rfl)
theorem impl_Type_only_eq (t_Kind : Int) (t_Size : Int) (t_Signed : Bool) (t_Big : Bool) (t_Names : List ByteArray) (t_Nums : List Int) (t_Members : List (ByteArray × Int × Ty_Type)) (t_Base : List Ty_Type) (t_Count : Int) :
    impl_Type_only t_Kind t_Size t_Signed t_Big t_Names t_Nums t_Members t_Base t_Count = (
      sif ((t_Kind == 1))
       (some (t_Kind, t_Size, t_Signed, t_Big, ([] : List ByteArray), ([] : List Int), ([] : List (ByteArray × Int × Ty_Type)), ([] : List Ty_Type), 0)) <|
      sif ((t_Kind == 2))
       (sif ((t_Kind == 2))
         (some (t_Kind, t_Size, false, false, ([] : List ByteArray), ([] : List Int), ([] : List (ByteArray × Int × Ty_Type)), ([] : List Ty_Type), 0)) <|
        sif ((t_Kind == 3))
         (some (t_Kind, 0, false, false, t_Names, t_Nums, ([] : List (ByteArray × Int × Ty_Type)), t_Base, 0)) <|
        sif ((t_Kind == 4))
         (some (t_Kind, t_Size, false, false, ([] : List ByteArray), ([] : List Int), t_Members, ([] : List Ty_Type), 0)) <|
        sif ((t_Kind == 5))
         (some (t_Kind, 0, false, false, ([] : List ByteArray), ([] : List Int), ([] : List (ByteArray × Int × Ty_Type)), t_Base, t_Count)) <|
        some (t_Kind, 0, false, false, ([] : List ByteArray), ([] : List Int), ([] : List (ByteArray × Int × Ty_Type)), ([] : List Ty_Type), 0)) <|
      sif ((t_Kind == 6))
       (some (t_Kind, t_Size, false, false, ([] : List ByteArray), ([] : List Int), ([] : List (ByteArray × Int × Ty_Type)), ([] : List Ty_Type), 0)) <|
      sif ((t_Kind == 3))
       (some (t_Kind, 0, false, false, t_Names, t_Nums, ([] : List (ByteArray × Int × Ty_Type)), t_Base, 0)) <|
      sif ((t_Kind == 4))
       (some (t_Kind, t_Size, false, false, ([] : List ByteArray), ([] : List Int), t_Members, ([] : List Ty_Type), 0)) <|
      sif ((t_Kind == 5))
       (some (t_Kind, 0, false, false, ([] : List ByteArray), ([] : List Int), ([] : List (ByteArray × Int × Ty_Type)), t_Base, t_Count)) <|
      some (t_Kind, 0, false, false, ([] : List ByteArray), ([] : List Int), ([] : List (ByteArray × Int × Ty_Type)), ([] : List Ty_Type), 0)) := sem_eq (f := 130) (m := 0) rfl (by kernel_rfl)
theorem impl_SameType_eq (a_Kind : Int) (a_Size : Int) (a_Signed : Bool) (a_Big : Bool) (a_Names : List ByteArray) (a_Nums : List Int) (a_Members : List (ByteArray × Int × Ty_Type)) (a_Base : List Ty_Type) (a_Count : Int) (b_Kind : Int) (b_Size : Int) (b_Signed : Bool) (b_Big : Bool) (b_Names : List ByteArray) (b_Nums : List Int) (b_Members : List (ByteArray × Int × Ty_Type)) (b_Base : List Ty_Type) (b_Count : Int) :
    impl_SameType a_Kind a_Size a_Signed a_Big a_Names a_Nums a_Members a_Base a_Count b_Kind b_Size b_Signed b_Big b_Names b_Nums b_Members b_Base b_Count = (
      sif ((a_Kind == b_Kind))
       (sif ((a_Size == b_Size))
         (sif ((a_Signed == b_Signed))
           (sif ((a_Big == b_Big))
             (sif ((a_Count == b_Count))
               (sbind (slices_Equal_sstring_string a_Names b_Names) fun r1 =>
                sif (r1)
                 (sbind (slices_Equal_sint64_int64 a_Nums b_Nums) fun r2 =>
                  sif (r2)
                   (sbind (slices_EqualFunc_simpl_Member_simpl_Member_impl_Member_impl_Member_dd_sameMember a_Members b_Members) fun r3 =>
                    sif (r3)
                     (sbind (slices_EqualFunc_simpl_Type_simpl_Type_impl_Type_impl_Type_dd_SameType a_Base b_Base) fun r4 =>
                      some r4) (some false)) (some false)) (some false)) (some false)) (some false)) (some false)) (some false)) (some false)) := sem_eq (f := 129) (m := 0) rfl (by kernel_rfl)
theorem slices_Equal_sstring_string_eq (s1 : List ByteArray) (s2 : List ByteArray) :
    slices_Equal_sstring_string s1 s2 = (
      sif (((s1.length : Int) != (s2.length : Int))) (some false) <|
      slices_Equal_sstring_string_l4 s1 s2 (s1.length : Int) 0) := sem_eq (f := 156) (m := 0) rfl (by kernel_rfl)
theorem slices_Equal_sstring_string_l4_eq (s1 : List ByteArray) (s2 : List ByteArray) (t12 : Int) (t13 : Int) :
    slices_Equal_sstring_string_l4 s1 s2 t12 t13 = (
      sif (decide (t13 < t12))
       (sbind (idx s1 t13) fun x1 =>
        sbind (idx s2 t13) fun x2 =>
        sif (!seq x1 x2) (some false) <|
        slices_Equal_sstring_string_l4 s1 s2 t12 (wi64 (t13 + 1))) (some true)) := seml_eq (f := 156) (m := 0) (l := 4) (by kernel_rfl)
theorem slices_Equal_sint64_int64_eq (s1 : List Int) (s2 : List Int) :
    slices_Equal_sint64_int64 s1 s2 = (
      sif (((s1.length : Int) != (s2.length : Int))) (some false) <|
      slices_Equal_sint64_int64_l4 s1 s2 (s1.length : Int) 0) := sem_eq (f := 157) (m := 0) rfl (by kernel_rfl)
theorem slices_Equal_sint64_int64_l4_eq (s1 : List Int) (s2 : List Int) (t12 : Int) (t13 : Int) :
    slices_Equal_sint64_int64_l4 s1 s2 t12 t13 = (
      sif (decide (t13 < t12))
       (sbind (idx s1 t13) fun x1 =>
        sbind (idx s2 t13) fun x2 =>
        sif ((x1 != x2)) (some false) <|
        slices_Equal_sint64_int64_l4 s1 s2 t12 (wi64 (t13 + 1))) (some true)) := seml_eq (f := 157) (m := 0) (l := 4) (by kernel_rfl)
theorem slices_EqualFunc_simpl_Member_simpl_Member_impl_Member_impl_Member_dd_sameMember_eq (s1 : List (ByteArray × Int × Ty_Type)) (s2 : List (ByteArray × Int × Ty_Type)) :
    slices_EqualFunc_simpl_Member_simpl_Member_impl_Member_impl_Member_dd_sameMember s1 s2 = (
      sif (((s1.length : Int) != (s2.length : Int))) (some false) <|
      slices_EqualFunc_simpl_Member_simpl_Member_impl_Member_impl_Member_dd_sameMember_l4 s2 s1 (s1.length : Int) 0) := sem_eq (f := 158) (m := 0) rfl (by kernel_rfl)
theorem slices_EqualFunc_simpl_Member_simpl_Member_impl_Member_impl_Member_dd_sameMember_l4_eq (s2 : List (ByteArray × Int × Ty_Type)) (t15 : List (ByteArray × Int × Ty_Type)) (t16 : Int) (t17 : Int) :
    slices_EqualFunc_simpl_Member_simpl_Member_impl_Member_impl_Member_dd_sameMember_l4 s2 t15 t16 t17 = (
      sif (decide (t17 < t16))
       (sbind (idx t15 t17) fun x1 =>
        sbind (idx s2 t17) fun x2 =>
        sbind (impl_sameMember x1.1 x1.2.1 x1.2.2.f_Kind x1.2.2.f_Size x1.2.2.f_Signed x1.2.2.f_Big x1.2.2.f_Names x1.2.2.f_Nums x1.2.2.f_Members x1.2.2.f_Base x1.2.2.f_Count x2.1 x2.2.1 x2.2.2.f_Kind x2.2.2.f_Size x2.2.2.f_Signed x2.2.2.f_Big x2.2.2.f_Names x2.2.2.f_Nums x2.2.2.f_Members x2.2.2.f_Base x2.2.2.f_Count) fun r3 =>
        sif (!r3) (some false) <|
        slices_EqualFunc_simpl_Member_simpl_Member_impl_Member_impl_Member_dd_sameMember_l4 s2 t15 t16 (wi64 (t17 + 1))) (some true)) := seml_eq (f := 158) (m := 0) (l := 4) (by kernel_rfl)
theorem impl_sameMember_eq (a_Name : ByteArray) (a_Offset : Int) (a_Type_Kind : Int) (a_Type_Size : Int) (a_Type_Signed : Bool) (a_Type_Big : Bool) (a_Type_Names : List ByteArray) (a_Type_Nums : List Int) (a_Type_Members : List (ByteArray × Int × Ty_Type)) (a_Type_Base : List Ty_Type) (a_Type_Count : Int) (b_Name : ByteArray) (b_Offset : Int) (b_Type_Kind : Int) (b_Type_Size : Int) (b_Type_Signed : Bool) (b_Type_Big : Bool) (b_Type_Names : List ByteArray) (b_Type_Nums : List Int) (b_Type_Members : List (ByteArray × Int × Ty_Type)) (b_Type_Base : List Ty_Type) (b_Type_Count : Int) :
    impl_sameMember a_Name a_Offset a_Type_Kind a_Type_Size a_Type_Signed a_Type_Big a_Type_Names a_Type_Nums a_Type_Members a_Type_Base a_Type_Count b_Name b_Offset b_Type_Kind b_Type_Size b_Type_Signed b_Type_Big b_Type_Names b_Type_Nums b_Type_Members b_Type_Base b_Type_Count = (
      sif (seq a_Name b_Name)
       (sif ((a_Offset == b_Offset))
         (sbind (impl_SameType a_Type_Kind a_Type_Size a_Type_Signed a_Type_Big a_Type_Names a_Type_Nums a_Type_Members a_Type_Base a_Type_Count b_Type_Kind b_Type_Size b_Type_Signed b_Type_Big b_Type_Names b_Type_Nums b_Type_Members b_Type_Base b_Type_Count) fun r1 =>
          some r1) (some false)) (some false)) := sem_eq (f := 159) (m := 0) rfl (by kernel_rfl)
theorem slices_EqualFunc_simpl_Type_simpl_Type_impl_Type_impl_Type_dd_SameType_eq (s1 : List Ty_Type) (s2 : List Ty_Type) :
    slices_EqualFunc_simpl_Type_simpl_Type_impl_Type_impl_Type_dd_SameType s1 s2 = (
      sif (((s1.length : Int) != (s2.length : Int))) (some false) <|
      slices_EqualFunc_simpl_Type_simpl_Type_impl_Type_impl_Type_dd_SameType_l4 s2 s1 (s1.length : Int) 0) := sem_eq (f := 160) (m := 0) rfl (by kernel_rfl)
theorem slices_EqualFunc_simpl_Type_simpl_Type_impl_Type_impl_Type_dd_SameType_l4_eq (s2 : List Ty_Type) (t15 : List Ty_Type) (t16 : Int) (t17 : Int) :
    slices_EqualFunc_simpl_Type_simpl_Type_impl_Type_impl_Type_dd_SameType_l4 s2 t15 t16 t17 = (
      sif (decide (t17 < t16))
       (sbind (idx t15 t17) fun x1 =>
        sbind (idx s2 t17) fun x2 =>
        sbind (impl_SameType x1.f_Kind x1.f_Size x1.f_Signed x1.f_Big x1.f_Names x1.f_Nums x1.f_Members x1.f_Base x1.f_Count x2.f_Kind x2.f_Size x2.f_Signed x2.f_Big x2.f_Names x2.f_Nums x2.f_Members x2.f_Base x2.f_Count) fun r3 =>
        sif (!r3) (some false) <|
        slices_EqualFunc_simpl_Type_simpl_Type_impl_Type_impl_Type_dd_SameType_l4 s2 t15 t16 (wi64 (t17 + 1))) (some true)) := seml_eq (f := 160) (m := 0) (l := 4) (by kernel_rfl)
theorem impl_Type_intOk_eq (t_Kind : Int) (t_Size : Int) (t_Signed : Bool) (t_Big : Bool) (t_Names : List ByteArray) (t_Nums : List Int) (t_Members : List (ByteArray × Int × Ty_Type)) (t_Base : List Ty_Type) (t_Count : Int) :
    impl_Type_intOk t_Kind t_Size t_Signed t_Big t_Names t_Nums t_Members t_Base t_Count = (
      sbind (slices_Contains_sint64_int64 ([1, 2, 4, 8] : List Int) t_Size) fun r1 =>
      sif (r1)
       (sif (t_Signed) (sif (t_Big) (some (!(t_Size == 1))) (some true)) <|
        sif (decide (t_Size < 8)) (sif (t_Big) (some (!(t_Size == 1))) (some true)) (some false)) (some false)) := sem_eq (f := 131) (m := 0) rfl (by kernel_rfl)
theorem slices_Contains_sint64_int64_eq (s : List Int) (v : Int) :
    slices_Contains_sint64_int64 s v = (
      sbind (slices_Index_sint64_int64 s v) fun r1 =>
      some (decide (r1 ≥ 0))) := sem_eq (f := 118) (m := 0) rfl (by kernel_rfl)
theorem slices_Index_sint64_int64_eq (s : List Int) (v : Int) :
    slices_Index_sint64_int64 s v = (
      slices_Index_sint64_int64_l2 s v (s.length : Int) 0) := sem_eq (f := 152) (m := 0) rfl (by kernel_rfl)
theorem slices_Index_sint64_int64_l2_eq (s : List Int) (v : Int) (t7 : Int) (t8 : Int) :
    slices_Index_sint64_int64_l2 s v t7 t8 = (
      sif (decide (t8 < t7))
       (sbind (idx s t8) fun x1 =>
        sif ((v == x1)) (some t8) <|
        slices_Index_sint64_int64_l2 s v t7 (wi64 (t8 + 1))) (some (-1))) := seml_eq (f := 152) (m := 0) (l := 2) (by kernel_rfl)
theorem impl_within_eq (n : Int) (low : Int) (high : Int) :
    impl_within n low high = (
      sif (decide (n ≥ low)) (some (decide (n ≤ high))) (some false)) := sem_eq (f := 75) (m := 0) rfl (by kernel_rfl)
theorem impl_Type_enumOk_eq (t_Kind : Int) (t_Size : Int) (t_Signed : Bool) (t_Big : Bool) (t_Names : List ByteArray) (t_Nums : List Int) (t_Members : List (ByteArray × Int × Ty_Type)) (t_Base : List Ty_Type) (t_Count : Int) :
    impl_Type_enumOk t_Kind t_Size t_Signed t_Big t_Names t_Nums t_Members t_Base t_Count = (
      sif (((t_Base.length : Int) != 1)) (some false) <|
      sbind (idx t_Base 0) fun x1 =>
      sif ((x1.f_Kind != 1)) (some false) <|
      sbind (idx t_Base 0) fun x2 =>
      sbind (impl_Type_valid x2.f_Kind x2.f_Size x2.f_Signed x2.f_Big x2.f_Names x2.f_Nums x2.f_Members x2.f_Base x2.f_Count 1) fun r3 =>
      sif (!r3) (some false) <|
      sbind (idx t_Base 0) fun x4 =>
      sbind (impl_Type_intRange x4.f_Kind x4.f_Size x4.f_Signed x4.f_Big x4.f_Names x4.f_Nums x4.f_Members x4.f_Base x4.f_Count) fun r5 =>
      impl_Type_enumOk_l5 r5.1 r5.2 t_Nums (t_Nums.length : Int) 0 t_Kind t_Size t_Signed t_Big t_Names t_Nums t_Members t_Base t_Count) := sem_eq (f := 132) (m := 0) rfl (by kernel_rfl)
theorem impl_Type_enumOk_l5_eq (low : Int) (high : Int) (t36 : List Int) (t37 : Int) (t38 : Int) (t_Kind : Int) (t_Size : Int) (t_Signed : Bool) (t_Big : Bool) (t_Names : List ByteArray) (t_Nums : List Int) (t_Members : List (ByteArray × Int × Ty_Type)) (t_Base : List Ty_Type) (t_Count : Int) :
    impl_Type_enumOk_l5 low high t36 t37 t38 t_Kind t_Size t_Signed t_Big t_Names t_Nums t_Members t_Base t_Count = (
      sif (decide (t38 < t37))
       (sbind (idx t36 t38) fun x1 =>
        sbind (impl_within x1 low high) fun r2 =>
        sif (!r2) (some false) <|
        sif (decide (t38 > 0))
         (sbind (idx t_Nums (wi64 (t38 - 1))) fun x3 =>
          sif (decide (x1 ≤ x3)) (some false) <|
          impl_Type_enumOk_l5 low high t36 t37 (wi64 (t38 + 1)) t_Kind t_Size t_Signed t_Big t_Names t_Nums t_Members t_Base t_Count) <|
        impl_Type_enumOk_l5 low high t36 t37 (wi64 (t38 + 1)) t_Kind t_Size t_Signed t_Big t_Names t_Nums t_Members t_Base t_Count) <|
      sbind (impl_within (t_Nums.length : Int) 1 6) fun r1 =>
      sif (r1)
       (sif (((t_Names.length : Int) == (t_Nums.length : Int)))
         (sbind (impl_differentNames t_Names) fun r2 =>
          some r2) (some false)) (some false)) := seml_eq (f := 132) (m := 0) (l := 5) (by kernel_rfl)
theorem impl_Type_intRange_eq (t_Kind : Int) (t_Size : Int) (t_Signed : Bool) (t_Big : Bool) (t_Names : List ByteArray) (t_Nums : List Int) (t_Members : List (ByteArray × Int × Ty_Type)) (t_Base : List Ty_Type) (t_Count : Int) :
    impl_Type_intRange t_Kind t_Size t_Signed t_Big t_Names t_Nums t_Members t_Base t_Count = (
      sif (t_Signed)
       (sif (decide (wi64 ((wi64 (8 * t_Size)) - 1) < 0)) (none) <|
        sif (decide (wi64 ((wi64 (8 * t_Size)) - 1) < 0)) (none) <|
        some (wi64 ((-1) * 2 ^ (min (wi64 ((wi64 (8 * t_Size)) - 1)).toNat 64)), wi64 ((wi64 (1 * 2 ^ (min (wi64 ((wi64 (8 * t_Size)) - 1)).toNat 64))) - 1))) <|
      sif (decide (wi64 (8 * t_Size) < 0)) (none) <|
      some (0, wi64 ((wi64 (1 * 2 ^ (min (wi64 (8 * t_Size)).toNat 64))) - 1))) := sem_eq (f := 161) (m := 0) rfl (by kernel_rfl)
theorem impl_differentNames_eq (names : List ByteArray) :
    impl_differentNames names = (
      impl_differentNames_l2 names names (names.length : Int) 0) := sem_eq (f := 162) (m := 0) rfl (by kernel_rfl)
theorem impl_differentNames_l2_eq (names : List ByteArray) (t5 : List ByteArray) (t6 : Int) (t7 : Int) :
    impl_differentNames_l2 names t5 t6 t7 = (
      sif (decide (t7 < t6))
       (sbind (idx t5 t7) fun x1 =>
        sbind (impl_IsName x1) fun r2 =>
        sif (!r2) (some false) <|
        sif (le3 0 t7 (names.length : Int))
         (sbind (slices_Contains_sstring_string ((names.take t7.toNat).drop 0) x1) fun r3 =>
          sif (r3) (some false) <|
          impl_differentNames_l2 names t5 t6 (wi64 (t7 + 1))) (none)) (some true)) := seml_eq (f := 162) (m := 0) (l := 2) (by kernel_rfl)
theorem impl_IsName_eq (s : ByteArray) :
    impl_IsName s = (
      impl_IsName_l2 s (s.size : Int) 0) := sem_eq (f := 61) (m := 0) rfl (by kernel_rfl)
theorem impl_IsName_l2_eq (s : ByteArray) (t7 : Int) (t8 : Int) :
    impl_IsName_l2 s t7 t8 = (
      sif (decide (t8 < t7))
       (sbind (bidx s t8) fun b1 =>
        sif (decide (b1 ≥ 65))
         (sif (decide (b1 ≤ 90)) (impl_IsName_l6 s t8 b1 true t7 t8) <|
          sif (decide (b1 ≥ 97)) (impl_IsName_l6 s t8 b1 (decide (b1 ≤ 122)) t7 t8) (impl_IsName_l6 s t8 b1 false t7 t8)) <|
        sif (decide (b1 ≥ 97)) (impl_IsName_l6 s t8 b1 (decide (b1 ≤ 122)) t7 t8) (impl_IsName_l6 s t8 b1 false t7 t8)) <|
      sif (decide ((s.size : Int) ≥ 1)) (some (decide ((s.size : Int) ≤ 12))) (some false)) := seml_eq (f := 61) (m := 0) (l := 2) (by kernel_rfl)
theorem impl_IsName_l6_eq (s : ByteArray) (i : Int) (c : Int) (letter : Bool) (t7 : Int) (t8 : Int) :
    impl_IsName_l6 s i c letter t7 t8 = (
      sif (!letter)
       (sif ((i == 0)) (some false) <|
        sif (decide (c < 48)) (sif ((c != 95)) (some false) (impl_IsName_l2 s t7 (wi64 (t8 + 1)))) <|
        sif (decide (c > 57)) (sif ((c != 95)) (some false) (impl_IsName_l2 s t7 (wi64 (t8 + 1)))) (impl_IsName_l2 s t7 (wi64 (t8 + 1)))) (impl_IsName_l2 s t7 (wi64 (t8 + 1)))) := seml_eq (f := 61) (m := 0) (l := 6) (by kernel_rfl)
theorem slices_Contains_sstring_string_eq (s : List ByteArray) (v : ByteArray) :
    slices_Contains_sstring_string s v = (
      sbind (slices_Index_sstring_string s v) fun r1 =>
      some (decide (r1 ≥ 0))) := sem_eq (f := 171) (m := 0) rfl (by kernel_rfl)
theorem slices_Index_sstring_string_eq (s : List ByteArray) (v : ByteArray) :
    slices_Index_sstring_string s v = (
      slices_Index_sstring_string_l2 s v (s.length : Int) 0) := sem_eq (f := 179) (m := 0) rfl (by kernel_rfl)
theorem slices_Index_sstring_string_l2_eq (s : List ByteArray) (v : ByteArray) (t7 : Int) (t8 : Int) :
    slices_Index_sstring_string_l2 s v t7 t8 = (
      sif (decide (t8 < t7))
       (sbind (idx s t8) fun x1 =>
        sif (seq v x1) (some t8) <|
        slices_Index_sstring_string_l2 s v t7 (wi64 (t8 + 1))) (some (-1))) := seml_eq (f := 179) (m := 0) (l := 2) (by kernel_rfl)
theorem impl_Type_compoundOk_eq (t_Kind : Int) (t_Size : Int) (t_Signed : Bool) (t_Big : Bool) (t_Names : List ByteArray) (t_Nums : List Int) (t_Members : List (ByteArray × Int × Ty_Type)) (t_Base : List Ty_Type) (t_Count : Int) (depth : Int) :
    impl_Type_compoundOk t_Kind t_Size t_Signed t_Big t_Names t_Nums t_Members t_Base t_Count depth = (
      sbind (impl_within t_Size 1 24) fun r1 =>
      sif (!r1) (some false) <|
      sbind (impl_within (t_Members.length : Int) 1 4) fun r2 =>
      sif (!r2) (some false) <|
      impl_Type_compoundOk_l6 depth 0 t_Members (t_Members.length : Int) 0 t_Kind t_Size t_Signed t_Big t_Names t_Nums t_Members t_Base t_Count ([] : List ByteArray)) := sem_eq (f := 133) (m := 0) rfl (by kernel_rfl)
theorem impl_Type_compoundOk_l6_eq (depth : Int) (end_ : Int) (t21 : List (ByteArray × Int × Ty_Type)) (t22 : Int) (t23 : Int) (t_Kind : Int) (t_Size : Int) (t_Signed : Bool) (t_Big : Bool) (t_Names : List ByteArray) (t_Nums : List Int) (t_Members : List (ByteArray × Int × Ty_Type)) (t_Base : List Ty_Type) (t_Count : Int) (names : List ByteArray) :
    impl_Type_compoundOk_l6 depth end_ t21 t22 t23 t_Kind t_Size t_Signed t_Big t_Names t_Nums t_Members t_Base t_Count names = (
      sif (decide (t23 < t22))
       (sbind (idx t21 t23) fun x1 =>
        sbind (impl_Type_valid x1.2.2.f_Kind x1.2.2.f_Size x1.2.2.f_Signed x1.2.2.f_Big x1.2.2.f_Names x1.2.2.f_Nums x1.2.2.f_Members x1.2.2.f_Base x1.2.2.f_Count depth) fun r2 =>
        sif (!r2) (some false) <|
        sif (decide (x1.2.1 < end_)) (some false) <|
        sif (decide (x1.2.1 > 24)) (some false) <|
        sbind (impl_Type_size x1.2.2.f_Kind x1.2.2.f_Size x1.2.2.f_Signed x1.2.2.f_Big x1.2.2.f_Names x1.2.2.f_Nums x1.2.2.f_Members x1.2.2.f_Base x1.2.2.f_Count) fun r3 =>
        sif (room (names.length + 1) 16)
         (impl_Type_compoundOk_l6 depth (wi64 (x1.2.1 + r3)) t21 t22 (wi64 (t23 + 1)) t_Kind t_Size t_Signed t_Big t_Names t_Nums t_Members t_Base t_Count (names ++ [x1.1])) (none)) <|
      sif (decide (end_ ≤ t_Size))
       (sbind (impl_differentNames names) fun r1 =>
        some r1) (some false)) := seml_eq (f := 133) (m := 0) (l := 6) (by kernel_rfl)
theorem impl_Type_size_eq (t_Kind : Int) (t_Size : Int) (t_Signed : Bool) (t_Big : Bool) (t_Names : List ByteArray) (t_Nums : List Int) (t_Members : List (ByteArray × Int × Ty_Type)) (t_Base : List Ty_Type) (t_Count : Int) :
    impl_Type_size t_Kind t_Size t_Signed t_Big t_Names t_Nums t_Members t_Base t_Count = (
      sif ((t_Kind == 3))
       (sbind (idx t_Base 0) fun x1 =>
        sbind (impl_Type_size x1.f_Kind x1.f_Size x1.f_Signed x1.f_Big x1.f_Names x1.f_Nums x1.f_Members x1.f_Base x1.f_Count) fun r2 =>
        some r2) <|
      sif ((t_Kind == 5))
       (sbind (idx t_Base 0) fun x1 =>
        sbind (impl_Type_size x1.f_Kind x1.f_Size x1.f_Signed x1.f_Big x1.f_Names x1.f_Nums x1.f_Members x1.f_Base x1.f_Count) fun r2 =>
        some (wi64 (t_Count * r2))) (some t_Size)) := sem_eq (f := 72) (m := 0) rfl (by kernel_rfl)
theorem impl_Type_encode_eq (t_Kind : Int) (t_Size : Int) (t_Signed : Bool) (t_Big : Bool) (t_Names : List ByteArray) (t_Nums : List Int) (t_Members : List (ByteArray × Int × Ty_Type)) (t_Base : List Ty_Type) (t_Count : Int) :
    impl_Type_encode t_Kind t_Size t_Signed t_Big t_Names t_Nums t_Members t_Base t_Count = (
      sbind (impl_putBytes t_Kind 1) fun r1 =>
      sif ((t_Kind == 1))
       (sbind (impl_putBytes t_Size 1) fun r2 =>
        sif (joins r1 r2)
         (sbind (impl_truth t_Signed) fun r3 =>
          sbind (impl_truth t_Big) fun r4 =>
          sbind (impl_putBytes (wi64 (r3 + (wi64 (2 * r4)))) 1) fun r5 =>
          sif (joins (r1 ++ r2) r5) (some ((r1 ++ r2) ++ r5)) (none)) (none)) <|
      sif ((t_Kind == 2))
       (sbind (impl_putBytes t_Size 1) fun r2 =>
        sif (joins r1 r2) (some (r1 ++ r2)) (none)) <|
      sif ((t_Kind == 3))
       (sbind (idx t_Base 0) fun x2 =>
        sbind (impl_Type_encode x2.f_Kind x2.f_Size x2.f_Signed x2.f_Big x2.f_Names x2.f_Nums x2.f_Members x2.f_Base x2.f_Count) fun r3 =>
        sbind (impl_putBytes (t_Names.length : Int) 1) fun r4 =>
        sif (joins r3 r4)
         (sif (joins r1 (r3 ++ r4))
           (impl_Type_encode_l10 (r1 ++ (r3 ++ r4)) t_Names (t_Names.length : Int) 0 t_Kind t_Size t_Signed t_Big t_Names t_Nums t_Members t_Base t_Count) (none)) (none)) <|
      sif ((t_Kind == 4))
       (sbind (impl_putBytes t_Size 1) fun r2 =>
        sbind (impl_putBytes (t_Members.length : Int) 1) fun r3 =>
        sif (joins r2 r3)
         (sif (joins r1 (r2 ++ r3)) (impl_Type_encode_l17 (r1 ++ (r2 ++ r3)) t_Members (t_Members.length : Int) 0) (none)) (none)) <|
      sif ((t_Kind == 5))
       (sbind (impl_putBytes t_Count 1) fun r2 =>
        sbind (idx t_Base 0) fun x3 =>
        sbind (impl_Type_encode x3.f_Kind x3.f_Size x3.f_Signed x3.f_Big x3.f_Names x3.f_Nums x3.f_Members x3.f_Base x3.f_Count) fun r4 =>
        sif (joins r2 r4) (sif (joins r1 (r2 ++ r4)) (some (r1 ++ (r2 ++ r4))) (none)) (none)) (some r1)) := sem_eq (f := 101) (m := 0) rfl (by kernel_rfl)
theorem impl_Type_encode_l10_eq (out : ByteArray) (t52 : List ByteArray) (t53 : Int) (t54 : Int) (t_Kind : Int) (t_Size : Int) (t_Signed : Bool) (t_Big : Bool) (t_Names : List ByteArray) (t_Nums : List Int) (t_Members : List (ByteArray × Int × Ty_Type)) (t_Base : List Ty_Type) (t_Count : Int) :
    impl_Type_encode_l10 out t52 t53 t54 t_Kind t_Size t_Signed t_Big t_Names t_Nums t_Members t_Base t_Count = (
      sif (decide (t54 < t53))
       (sbind (idx t52 t54) fun x1 =>
        sbind (impl_putName x1) fun r2 =>
        sbind (idx t_Nums t54) fun x3 =>
        sbind (impl_putBytes x3 8) fun r4 =>
        sif (joins r2 r4)
         (sif (joins out (r2 ++ r4))
           (impl_Type_encode_l10 (out ++ (r2 ++ r4)) t52 t53 (wi64 (t54 + 1)) t_Kind t_Size t_Signed t_Big t_Names t_Nums t_Members t_Base t_Count) (none)) (none)) (some out)) := seml_eq (f := 101) (m := 0) (l := 10) (by kernel_rfl)
theorem impl_Type_encode_l17_eq (out : ByteArray) (t84 : List (ByteArray × Int × Ty_Type)) (t85 : Int) (t86 : Int) :
    impl_Type_encode_l17 out t84 t85 t86 = (
      sif (decide (t86 < t85))
       (sbind (idx t84 t86) fun x1 =>
        sbind (impl_putName x1.1) fun r2 =>
        sbind (impl_putBytes x1.2.1 1) fun r3 =>
        sif (joins r2 r3)
         (sbind (impl_Type_encode x1.2.2.f_Kind x1.2.2.f_Size x1.2.2.f_Signed x1.2.2.f_Big x1.2.2.f_Names x1.2.2.f_Nums x1.2.2.f_Members x1.2.2.f_Base x1.2.2.f_Count) fun r4 =>
          sif (joins (r2 ++ r3) r4)
           (sif (joins out ((r2 ++ r3) ++ r4)) (impl_Type_encode_l17 (out ++ ((r2 ++ r3) ++ r4)) t84 t85 (wi64 (t86 + 1))) (none)) (none)) (none)) (some out)) := seml_eq (f := 101) (m := 0) (l := 17) (by kernel_rfl)
theorem impl_putBytes_eq (n : Int) (size : Int) :
    impl_putBytes n size = (
      sif (le3 0 size size && room size.toNat 1)
       (impl_putBytes_l3 n ((List.replicate size.toNat (0 : Int)).length : Int) 0 (List.replicate size.toNat (0 : Int))) (none)) := sem_eq (f := 103) (m := 0) rfl (by kernel_rfl)
theorem impl_putBytes_l3_eq (n : Int) (t10 : Int) (t11 : Int) (out : List Int) :
    impl_putBytes_l3 n t10 t11 out = (
      sif (decide (t11 < t10))
       (sif (decide (wi64 (8 * t11) < 0)) (none) <|
        sif (lt3 0 t11 (out.length : Int))
         (impl_putBytes_l3 n t10 (wi64 (t11 + 1)) (out.set t11.toNat (wu8 (Int.fdiv n (2 ^ (min (wi64 (8 * t11)).toNat 64)))))) (none)) (some (toB out))) := seml_eq (f := 103) (m := 0) (l := 3) (by kernel_rfl)
theorem impl_truth_eq (is : Bool) :
    impl_truth is = (
      sif (is) (some 1) (some 0)) := sem_eq (f := 145) (m := 0) rfl (by kernel_rfl)
theorem impl_putName_eq (s : ByteArray) :
    impl_putName s = (
      sbind (impl_putBytes (s.size : Int) 1) fun r1 =>
      sif (joins r1 s) (some (r1 ++ s)) (none)) := sem_eq (f := 102) (m := 0) rfl (by kernel_rfl)
theorem impl_ValidSpace_eq (s_Dims : List Int) (s_Max : List Int) :
    impl_ValidSpace s_Dims s_Max = (
      sbind (impl_ValidDims s_Dims) fun r1 =>
      sif (!r1) (some false) <|
      sif (((s_Max.length : Int) != (s_Dims.length : Int))) (some false) <|
      impl_ValidSpace_l4 s_Max (s_Max.length : Int) 0 s_Dims s_Max) := sem_eq (f := 70) (m := 0) rfl (by kernel_rfl)
theorem impl_ValidSpace_l4_eq (t19 : List Int) (t20 : Int) (t21 : Int) (s_Dims : List Int) (s_Max : List Int) :
    impl_ValidSpace_l4 t19 t20 t21 s_Dims s_Max = (
      sif (decide (t21 < t20))
       (sbind (idx t19 t21) fun x1 =>
        sif ((x1 != (-1)))
         (sbind (idx s_Dims t21) fun x2 =>
          sbind (impl_within x1 x2 40) fun r3 =>
          sif (!r3) (some false) <|
          impl_ValidSpace_l4 t19 t20 (wi64 (t21 + 1)) s_Dims s_Max) <|
        impl_ValidSpace_l4 t19 t20 (wi64 (t21 + 1)) s_Dims s_Max) (some true)) := seml_eq (f := 70) (m := 0) (l := 4) (by kernel_rfl)
theorem impl_ValidDims_eq (dims : List Int) :
    impl_ValidDims dims = (
      sif (decide ((dims.length : Int) ≤ 3))
       (sbind (impl_allWithin dims 0 40) fun r1 =>
        sif (r1)
         (sbind (impl_product dims) fun r2 =>
          some (decide (r2 ≤ 600))) (some false)) (some false)) := sem_eq (f := 38) (m := 0) rfl (by kernel_rfl)
theorem impl_allWithin_eq (list : List Int) (low : Int) (high : Int) :
    impl_allWithin list low high = (
      sbind (slices_ContainsFunc_sint64_int64_d_allWithin_1 list low high) fun r1 =>
      some !r1) := sem_eq (f := 84) (m := 0) rfl (by kernel_rfl)
theorem slices_ContainsFunc_sint64_int64_d_allWithin_1_eq (s : List Int) (c0 : Int) (c1 : Int) :
    slices_ContainsFunc_sint64_int64_d_allWithin_1 s c0 c1 = (
      sbind (slices_IndexFunc_sint64_int64_d_allWithin_1 s c0 c1) fun r1 =>
      some (decide (r1 ≥ 0))) := sem_eq (f := 134) (m := 0) rfl (by kernel_rfl)
theorem slices_IndexFunc_sint64_int64_d_allWithin_1_eq (s : List Int) (c0 : Int) (c1 : Int) :
    slices_IndexFunc_sint64_int64_d_allWithin_1 s c0 c1 = (
      slices_IndexFunc_sint64_int64_d_allWithin_1_l2 s (s.length : Int) 0 c0 c1) := sem_eq (f := 163) (m := 0) rfl (by kernel_rfl)
theorem slices_IndexFunc_sint64_int64_d_allWithin_1_l2_eq (s : List Int) (t7 : Int) (t8 : Int) (c0 : Int) (c1 : Int) :
    slices_IndexFunc_sint64_int64_d_allWithin_1_l2 s t7 t8 c0 c1 = (
      sif (decide (t8 < t7))
       (sbind (idx s t8) fun x1 =>
        sbind (impl_allWithin_1 x1 c0 c1) fun r2 =>
        sif (r2) (some t8) <|
        slices_IndexFunc_sint64_int64_d_allWithin_1_l2 s t7 (wi64 (t8 + 1)) c0 c1) (some (-1))) := seml_eq (f := 163) (m := 0) (l := 2) (by kernel_rfl)
theorem impl_allWithin_1_eq (n : Int) (t1 : Int) (t2 : Int) :
    impl_allWithin_1 n t1 t2 = (
      sbind (impl_within n t1 t2) fun r1 =>
      some !r1) := sem_eq (f := 135) (m := 0) rfl (by kernel_rfl)
theorem impl_product_eq (list : List Int) :
    impl_product list = (
      impl_product_l3 1 list (list.length : Int) 0) := sem_eq (f := 40) (m := 0) rfl (by kernel_rfl)
theorem impl_product_l3_eq (out : Int) (t6 : List Int) (t7 : Int) (t8 : Int) :
    impl_product_l3 out t6 t7 t8 = (
      sif (decide (t8 < t7))
       (sbind (idx t6 t8) fun x1 =>
        impl_product_l3 (wi64 (out * x1)) t6 t7 (wi64 (t8 + 1))) (some out)) := seml_eq (f := 40) (m := 0) (l := 3) (by kernel_rfl)
theorem impl_ValidChunk_eq (dims : List Int) (chunk : List Int) :
    impl_ValidChunk dims chunk = (
      sbind (impl_ValidDims dims) fun r1 =>
      sif (!r1) (some false) <|
      sif (((chunk.length : Int) != (dims.length : Int))) (some false) <|
      sbind (impl_allWithin chunk 1 40) fun r2 =>
      sif (!r2) (some false) <|
      sbind (impl_product chunk) fun r3 =>
      sif (decide (r3 > 64)) (some false) <|
      sbind (impl_gridOf dims chunk) fun r4 =>
      sbind (impl_allWithin r4 0 16) fun r5 =>
      sif (r5)
       (sbind (impl_product r4) fun r6 =>
        some (decide (r6 ≤ 256))) (some false)) := sem_eq (f := 71) (m := 0) rfl (by kernel_rfl)
theorem impl_gridOf_eq (dims : List Int) (chunk : List Int) :
    impl_gridOf dims chunk = (
      impl_gridOf_l3 chunk dims (dims.length : Int) 0 ([] : List Int)) := sem_eq (f := 112) (m := 0) rfl (by kernel_rfl)
theorem impl_gridOf_l3_eq (chunk : List Int) (t8 : List Int) (t9 : Int) (t10 : Int) (out : List Int) :
    impl_gridOf_l3 chunk t8 t9 t10 out = (
      sif (decide (t10 < t9))
       (sbind (idx t8 t10) fun x1 =>
        sbind (idx chunk t10) fun x2 =>
        sbind (idx chunk t10) fun x3 =>
        sif (decide (x3 = 0)) (none) <|
        sif (room (out.length + 1) 8)
         (impl_gridOf_l3 chunk t8 t9 (wi64 (t10 + 1)) (out ++ [wi64 (Int.tdiv (wi64 ((wi64 (x1 + x2)) - 1)) x3)])) (none)) (some out)) := seml_eq (f := 112) (m := 0) (l := 3) (by kernel_rfl)
theorem impl_ValidPipeline_eq (list : List (Int × Int × Bool)) :
    impl_ValidPipeline list = (
      sif (decide ((list.length : Int) ≤ 4))
       (sbind (slices_ContainsFunc_simpl_Filter_impl_Filter_d_ValidPipeline_1 list) fun r1 =>
        some !r1) (some false)) := sem_eq (f := 73) (m := 0) rfl (by kernel_rfl)
theorem slices_ContainsFunc_simpl_Filter_impl_Filter_d_ValidPipeline_1_eq (s : List (Int × Int × Bool)) :
    slices_ContainsFunc_simpl_Filter_impl_Filter_d_ValidPipeline_1 s = (
      sbind (slices_IndexFunc_simpl_Filter_impl_Filter_d_ValidPipeline_1 s) fun r1 =>
      some (decide (r1 ≥ 0))) := sem_eq (f := 113) (m := 0) rfl (by kernel_rfl)
theorem slices_IndexFunc_simpl_Filter_impl_Filter_d_ValidPipeline_1_eq (s : List (Int × Int × Bool)) :
    slices_IndexFunc_simpl_Filter_impl_Filter_d_ValidPipeline_1 s = (
      slices_IndexFunc_simpl_Filter_impl_Filter_d_ValidPipeline_1_l2 s (s.length : Int) 0) := sem_eq (f := 148) (m := 0) rfl (by kernel_rfl)
theorem slices_IndexFunc_simpl_Filter_impl_Filter_d_ValidPipeline_1_l2_eq (s : List (Int × Int × Bool)) (t7 : Int) (t8 : Int) :
    slices_IndexFunc_simpl_Filter_impl_Filter_d_ValidPipeline_1_l2 s t7 t8 = (
      sif (decide (t8 < t7))
       (sbind (idx s t8) fun x1 =>
        sbind (impl_ValidPipeline_1 x1.1 x1.2.1 x1.2.2) fun r2 =>
        sif (r2) (some t8) <|
        slices_IndexFunc_simpl_Filter_impl_Filter_d_ValidPipeline_1_l2 s t7 (wi64 (t8 + 1))) (some (-1))) := seml_eq (f := 148) (m := 0) (l := 2) (by kernel_rfl)
theorem impl_ValidPipeline_1_eq (f_Kind : Int) (f_Param : Int) (f_Optional : Bool) :
    impl_ValidPipeline_1 f_Kind f_Param f_Optional = (
      sbind (impl_ValidFilter f_Kind f_Param f_Optional) fun r1 =>
      some !r1) := sem_eq (f := 114) (m := 0) rfl (by kernel_rfl)
theorem impl_ValidFilter_eq (f_Kind : Int) (f_Param : Int) (f_Optional : Bool) :
    impl_ValidFilter f_Kind f_Param f_Optional = (
      sif ((f_Kind == 1))
       (sbind (impl_within f_Param 1 24) fun r1 =>
        sif (r1) (some !f_Optional) (some false)) <|
      sif ((f_Kind == 2))
       (sbind (impl_isWidth f_Param) fun r1 =>
        sif (r1) (some !f_Optional) (some false)) <|
      sif ((f_Kind == 3))
       (sif ((f_Kind == 3)) (some (f_Param == 0)) <|
        sif ((f_Kind == 5)) (sif ((f_Param == 0)) (some !f_Optional) (some false)) (some false)) <|
      sif ((f_Kind == 4)) (some (f_Param == 0)) <|
      sif ((f_Kind == 5)) (sif ((f_Param == 0)) (some !f_Optional) (some false)) (some false)) := sem_eq (f := 115) (m := 0) rfl (by kernel_rfl)
theorem impl_isWidth_eq (width : Int) :
    impl_isWidth width = (
      sif ((width == 1)) (some true) (sif ((width == 2)) (some true) (some (width == 4)))) := sem_eq (f := 149) (m := 0) rfl (by kernel_rfl)
theorem impl_Type_isElement_eq (t_Kind : Int) (t_Size : Int) (t_Signed : Bool) (t_Big : Bool) (t_Names : List ByteArray) (t_Nums : List Int) (t_Members : List (ByteArray × Int × Ty_Type)) (t_Base : List Ty_Type) (t_Count : Int) (b : ByteArray) :
    impl_Type_isElement t_Kind t_Size t_Signed t_Big t_Names t_Nums t_Members t_Base t_Count b = (
      sbind (impl_Type_size t_Kind t_Size t_Signed t_Big t_Names t_Nums t_Members t_Base t_Count) fun r1 =>
      sif (((b.size : Int) != r1)) (some false) <|
      sif ((t_Kind == 2))
       (sbind (impl_trimmed b) fun r2 =>
        sbind (strings_Contains r2 (bs [0])) fun r3 =>
        some !r3) <|
      sif ((t_Kind == 3))
       (sbind (impl_Type_number t_Kind t_Size t_Signed t_Big t_Names t_Nums t_Members t_Base t_Count b) fun r2 =>
        sbind (slices_Contains_sint64_int64 t_Nums r2) fun r3 =>
        some r3) <|
      sif ((t_Kind == 4))
       (sbind (impl_Type_gapsOk t_Kind t_Size t_Signed t_Big t_Names t_Nums t_Members t_Base t_Count b) fun r2 =>
        sif (!r2) (some false) <|
        sbind (impl_Type_parts t_Kind t_Size t_Signed t_Big t_Names t_Nums t_Members t_Base t_Count b) fun r3 =>
        sbind (slices_ContainsFunc_simpl_part_impl_part_d_Type_isElement_1 r3) fun r4 =>
        some !r4) <|
      sbind (impl_Type_parts t_Kind t_Size t_Signed t_Big t_Names t_Nums t_Members t_Base t_Count b) fun r2 =>
      sbind (slices_ContainsFunc_simpl_part_impl_part_d_Type_isElement_1 r2) fun r3 =>
      some !r3) := sem_eq (f := 74) (m := 0) rfl (by kernel_rfl)
theorem impl_trimmed_eq (b : ByteArray) :
    impl_trimmed b = (
      sbind (strings_TrimRight b (bs [0])) fun r1 =>
      some r1) := sem_eq (f := 117) (m := 0) rfl (by kernel_rfl)
theorem strings_TrimRight_eq (x0 : ByteArray) (x1 : ByteArray) : strings_TrimRight x0 x1 = trimR1 x0 x1 := ext_eq (E := E) (f := 151) (m := 0) (g := fun (d : ByteArray × ByteArray) => (trimR1 (d.1) (d.2) : Option (ByteArray))) (by kernel_rfl) (x0, x1)
theorem strings_Contains_eq (x0 : ByteArray) (x1 : ByteArray) : strings_Contains x0 x1 = contains1 x0 x1 := ext_eq (E := E) (f := 116) (m := 0) (g := fun (d : ByteArray × ByteArray) => (contains1 (d.1) (d.2) : Option (Bool))) (by kernel_rfl) (x0, x1)
theorem impl_Type_number_eq (t_Kind : Int) (t_Size : Int) (t_Signed : Bool) (t_Big : Bool) (t_Names : List ByteArray) (t_Nums : List Int) (t_Members : List (ByteArray × Int × Ty_Type)) (t_Base : List Ty_Type) (t_Count : Int) (b : ByteArray) :
    impl_Type_number t_Kind t_Size t_Signed t_Big t_Names t_Nums t_Members t_Base t_Count b = (
      sif ((t_Kind == 3))
       (sbind (idx t_Base 0) fun x1 =>
        sbind (impl_Type_number x1.f_Kind x1.f_Size x1.f_Signed x1.f_Big x1.f_Names x1.f_Nums x1.f_Members x1.f_Base x1.f_Count b) fun r2 =>
        some r2) <|
      sif (t_Big)
       (sbind (impl_ReverseBytes b) fun r1 =>
        sif (t_Signed)
         (sbind (impl_signed r1) fun r2 =>
          some r2) <|
        sbind (impl_getBits r1) fun r2 =>
        some (wi64 r2)) <|
      sif (t_Signed)
       (sbind (impl_signed b) fun r1 =>
        some r1) <|
      sbind (impl_getBits b) fun r1 =>
      some (wi64 r1)) := sem_eq (f := 93) (m := 0) rfl (by kernel_rfl)
theorem impl_ReverseBytes_eq (s : ByteArray) :
    impl_ReverseBytes s = (
      sbind (slices_Reverse_sbyte_byte_v (ofB s)) fun r1 =>
      some (toB r1)) := sem_eq (f := 140) (m := 0) rfl (by kernel_rfl)
theorem slices_Reverse_sbyte_byte_v_eq (s : List Int) :
    slices_Reverse_sbyte_byte_v s = (
      slices_Reverse_sbyte_byte_v_l1 0 (wi64 ((s.length : Int) - 1)) s) := sem_eq (f := 164) (m := 0) rfl (by kernel_rfl)
theorem slices_Reverse_sbyte_byte_v_l1_eq (i : Int) (j : Int) (s : List Int) :
    slices_Reverse_sbyte_byte_v_l1 i j s = (
      sif (decide (i < j))
       (sif (lt3 0 j (s.length : Int))
         (sbind (s[j.toNat]?) fun x1 =>
          sif (lt3 0 i (s.length : Int))
           (sbind (s[i.toNat]?) fun x2 =>
            sif (lt3 0 i (s.length : Int))
             (sif (lt3 0 j ((s.set i.toNat x1).length : Int))
               (slices_Reverse_sbyte_byte_v_l1 (wi64 (i + 1)) (wi64 (j - 1)) ((s.set i.toNat x1).set j.toNat x2)) (none)) (none)) (none)) (none)) (some s)) := seml_eq (f := 164) (m := 0) (l := 1) (by kernel_rfl)
theorem impl_signed_eq (s : ByteArray) :
    impl_signed s = (
      sbind (impl_getBits s) fun r1 =>
      sif (decide (wi64 (64 - (wi64 (8 * (s.size : Int)))) < 0)) (none) <|
      sif (decide (wi64 (64 - (wi64 (8 * (s.size : Int)))) < 0)) (none) <|
      some (Int.fdiv (wi64 (wu64 (r1 * 2 ^ (min (wi64 (64 - (wi64 (8 * (s.size : Int))))).toNat 64)))) (2 ^ (min (wi64 (64 - (wi64 (8 * (s.size : Int))))).toNat 64)))) := sem_eq (f := 141) (m := 0) rfl (by kernel_rfl)
theorem impl_getBits_eq (s : ByteArray) :
    impl_getBits s = (
      impl_getBits_l3 s 0 (s.size : Int) 0) := sem_eq (f := 142) (m := 0) rfl (by kernel_rfl)
theorem impl_getBits_l3_eq (s : ByteArray) (n : Int) (t6 : Int) (t7 : Int) :
    impl_getBits_l3 s n t6 t7 = (
      sif (decide (t7 < t6))
       (sbind (bidx s t7) fun b1 =>
        sif (decide (wi64 (8 * t7) < 0)) (none) <|
        impl_getBits_l3 s (bits .or .u64 n (wu64 ((wu64 b1) * 2 ^ (min (wi64 (8 * t7)).toNat 64)))) t6 (wi64 (t7 + 1))) (some n)) := seml_eq (f := 142) (m := 0) (l := 3) (by kernel_rfl)
theorem impl_Type_gapsOk_eq (t_Kind : Int) (t_Size : Int) (t_Signed : Bool) (t_Big : Bool) (t_Names : List ByteArray) (t_Nums : List Int) (t_Members : List (ByteArray × Int × Ty_Type)) (t_Base : List Ty_Type) (t_Count : Int) (b : ByteArray) :
    impl_Type_gapsOk t_Kind t_Size t_Signed t_Big t_Names t_Nums t_Members t_Base t_Count b = (
      impl_Type_gapsOk_l3 t_Members (t_Members.length : Int) 0 (ofB b)) := sem_eq (f := 119) (m := 0) rfl (by kernel_rfl)
theorem impl_Type_gapsOk_l3_eq (t11 : List (ByteArray × Int × Ty_Type)) (t12 : Int) (t13 : Int) (rest : List Int) :
    impl_Type_gapsOk_l3 t11 t12 t13 rest = (
      sif (decide (t13 < t12))
       (sbind (idx t11 t13) fun x1 =>
        sbind (impl_Type_size x1.2.2.f_Kind x1.2.2.f_Size x1.2.2.f_Signed x1.2.2.f_Big x1.2.2.f_Names x1.2.2.f_Nums x1.2.2.f_Members x1.2.2.f_Base x1.2.2.f_Count) fun r2 =>
        sif (le3 0 (wi64 (x1.2.1 + r2)) (rest.length : Int))
         (sif (le3 0 x1.2.1 (wi64 (x1.2.1 + r2)))
           (impl_Type_gapsOk_l3 t11 t12 (wi64 (t13 + 1)) (rest.take x1.2.1.toNat ++ ((List.replicate (((wi64 (x1.2.1 + r2)).toNat) - x1.2.1.toNat) (0 : Int)) ++ rest.drop (x1.2.1.toNat + (List.replicate (((wi64 (x1.2.1 + r2)).toNat) - x1.2.1.toNat) (0 : Int)).length)))) (none)) (none)) <|
      sbind (impl_trimmed (toB rest)) fun r1 =>
      some (seq r1 (bs []))) := seml_eq (f := 119) (m := 0) (l := 3) (by kernel_rfl)
theorem impl_Type_parts_eq (t_Kind : Int) (t_Size : Int) (t_Signed : Bool) (t_Big : Bool) (t_Names : List ByteArray) (t_Nums : List Int) (t_Members : List (ByteArray × Int × Ty_Type)) (t_Base : List Ty_Type) (t_Count : Int) (b : ByteArray) :
    impl_Type_parts t_Kind t_Size t_Signed t_Big t_Names t_Nums t_Members t_Base t_Count b = (
      sif ((t_Kind == 4)) (impl_Type_parts_l5 b t_Members (t_Members.length : Int) 0 ([] : List (Ty_Type × ByteArray))) <|
      sif ((t_Kind == 5))
       (sbind (idx t_Base 0) fun x1 =>
        sbind (impl_Type_size x1.f_Kind x1.f_Size x1.f_Signed x1.f_Big x1.f_Names x1.f_Nums x1.f_Members x1.f_Base x1.f_Count) fun r2 =>
        impl_Type_parts_l12 b r2 t_Count 0 t_Kind t_Size t_Signed t_Big t_Names t_Nums t_Members t_Base t_Count ([] : List (Ty_Type × ByteArray))) (some ([] : List (Ty_Type × ByteArray)))) := sem_eq (f := 96) (m := 0) rfl (by kernel_rfl)
theorem impl_Type_parts_l5_eq (b : ByteArray) (t15 : List (ByteArray × Int × Ty_Type)) (t16 : Int) (t17 : Int) (out : List (Ty_Type × ByteArray)) :
    impl_Type_parts_l5 b t15 t16 t17 out = (
      sif (decide (t17 < t16))
       (sbind (idx t15 t17) fun x1 =>
        sbind (impl_Type_size x1.2.2.f_Kind x1.2.2.f_Size x1.2.2.f_Signed x1.2.2.f_Big x1.2.2.f_Names x1.2.2.f_Nums x1.2.2.f_Members x1.2.2.f_Base x1.2.2.f_Count) fun r2 =>
        sif (le3 0 (wi64 (x1.2.1 + r2)) (b.size : Int))
         (sif (le3 0 x1.2.1 (wi64 (x1.2.1 + r2)))
           (sif (room (out.length + 1) 144)
             (impl_Type_parts_l5 b t15 t16 (wi64 (t17 + 1)) (out ++ [((Ty_Type.mk x1.2.2.f_Kind x1.2.2.f_Size x1.2.2.f_Signed x1.2.2.f_Big x1.2.2.f_Names x1.2.2.f_Nums x1.2.2.f_Members x1.2.2.f_Base x1.2.2.f_Count), b.extract x1.2.1.toNat ((wi64 (x1.2.1 + r2)).toNat))])) (none)) (none)) (none)) (some out)) := seml_eq (f := 96) (m := 0) (l := 5) (by kernel_rfl)
theorem impl_Type_parts_l12_eq (b : ByteArray) (n : Int) (t46 : Int) (t47 : Int) (t_Kind : Int) (t_Size : Int) (t_Signed : Bool) (t_Big : Bool) (t_Names : List ByteArray) (t_Nums : List Int) (t_Members : List (ByteArray × Int × Ty_Type)) (t_Base : List Ty_Type) (t_Count : Int) (out : List (Ty_Type × ByteArray)) :
    impl_Type_parts_l12 b n t46 t47 t_Kind t_Size t_Signed t_Big t_Names t_Nums t_Members t_Base t_Count out = (
      sif (decide (t47 < t46))
       (sbind (idx t_Base 0) fun x1 =>
        sif (le3 0 (wi64 ((wi64 (t47 + 1)) * n)) (b.size : Int))
         (sif (le3 0 (wi64 (t47 * n)) (wi64 ((wi64 (t47 + 1)) * n)))
           (sif (room (out.length + 1) 144)
             (impl_Type_parts_l12 b n t46 (wi64 (t47 + 1)) t_Kind t_Size t_Signed t_Big t_Names t_Nums t_Members t_Base t_Count (out ++ [((Ty_Type.mk x1.f_Kind x1.f_Size x1.f_Signed x1.f_Big x1.f_Names x1.f_Nums x1.f_Members x1.f_Base x1.f_Count), b.extract ((wi64 (t47 * n)).toNat) ((wi64 ((wi64 (t47 + 1)) * n)).toNat))])) (none)) (none)) (none)) (some out)) := seml_eq (f := 96) (m := 0) (l := 12) (by kernel_rfl)
theorem slices_ContainsFunc_simpl_part_impl_part_d_Type_isElement_1_eq (s : List (Ty_Type × ByteArray)) :
    slices_ContainsFunc_simpl_part_impl_part_d_Type_isElement_1 s = (
      sbind (slices_IndexFunc_simpl_part_impl_part_d_Type_isElement_1 s) fun r1 =>
      some (decide (r1 ≥ 0))) := sem_eq (f := 120) (m := 0) rfl (by kernel_rfl)
theorem slices_IndexFunc_simpl_part_impl_part_d_Type_isElement_1_eq (s : List (Ty_Type × ByteArray)) :
    slices_IndexFunc_simpl_part_impl_part_d_Type_isElement_1 s = (
      slices_IndexFunc_simpl_part_impl_part_d_Type_isElement_1_l2 s (s.length : Int) 0) := sem_eq (f := 153) (m := 0) rfl (by kernel_rfl)
theorem slices_IndexFunc_simpl_part_impl_part_d_Type_isElement_1_l2_eq (s : List (Ty_Type × ByteArray)) (t7 : Int) (t8 : Int) :
    slices_IndexFunc_simpl_part_impl_part_d_Type_isElement_1_l2 s t7 t8 = (
      sif (decide (t8 < t7))
       (sbind (idx s t8) fun x1 =>
        sbind (impl_Type_isElement_1 x1.1.f_Kind x1.1.f_Size x1.1.f_Signed x1.1.f_Big x1.1.f_Names x1.1.f_Nums x1.1.f_Members x1.1.f_Base x1.1.f_Count x1.2) fun r2 =>
        sif (r2) (some t8) <|
        slices_IndexFunc_simpl_part_impl_part_d_Type_isElement_1_l2 s t7 (wi64 (t8 + 1))) (some (-1))) := seml_eq (f := 153) (m := 0) (l := 2) (by kernel_rfl)
theorem impl_Type_isElement_1_eq (p_t_Kind : Int) (p_t_Size : Int) (p_t_Signed : Bool) (p_t_Big : Bool) (p_t_Names : List ByteArray) (p_t_Nums : List Int) (p_t_Members : List (ByteArray × Int × Ty_Type)) (p_t_Base : List Ty_Type) (p_t_Count : Int) (p_b : ByteArray) :
    impl_Type_isElement_1 p_t_Kind p_t_Size p_t_Signed p_t_Big p_t_Names p_t_Nums p_t_Members p_t_Base p_t_Count p_b = (
      sbind (impl_Type_isElement p_t_Kind p_t_Size p_t_Signed p_t_Big p_t_Names p_t_Nums p_t_Members p_t_Base p_t_Count p_b) fun r1 =>
      some !r1) := sem_eq (f := 121) (m := 0) rfl (by kernel_rfl)
theorem laws_eqDataset_eq (a_Type_Kind : Int) (a_Type_Size : Int) (a_Type_Signed : Bool) (a_Type_Big : Bool) (a_Type_Names : List ByteArray) (a_Type_Nums : List Int) (a_Type_Members : List (ByteArray × Int × Ty_Type)) (a_Type_Base : List Ty_Type) (a_Type_Count : Int) (a_Space_Dims : List Int) (a_Space_Max : List Int) (a_Chunk : List Int) (a_Filters : List (Int × Int × Bool)) (a_Fill : ByteArray) (a_Index : Int) (b_Type_Kind : Int) (b_Type_Size : Int) (b_Type_Signed : Bool) (b_Type_Big : Bool) (b_Type_Names : List ByteArray) (b_Type_Nums : List Int) (b_Type_Members : List (ByteArray × Int × Ty_Type)) (b_Type_Base : List Ty_Type) (b_Type_Count : Int) (b_Space_Dims : List Int) (b_Space_Max : List Int) (b_Chunk : List Int) (b_Filters : List (Int × Int × Bool)) (b_Fill : ByteArray) (b_Index : Int) :
    laws_eqDataset a_Type_Kind a_Type_Size a_Type_Signed a_Type_Big a_Type_Names a_Type_Nums a_Type_Members a_Type_Base a_Type_Count a_Space_Dims a_Space_Max a_Chunk a_Filters a_Fill a_Index b_Type_Kind b_Type_Size b_Type_Signed b_Type_Big b_Type_Names b_Type_Nums b_Type_Members b_Type_Base b_Type_Count b_Space_Dims b_Space_Max b_Chunk b_Filters b_Fill b_Index = (
      sbind (laws_eqType a_Type_Kind a_Type_Size a_Type_Signed a_Type_Big a_Type_Names a_Type_Nums a_Type_Members a_Type_Base a_Type_Count b_Type_Kind b_Type_Size b_Type_Signed b_Type_Big b_Type_Names b_Type_Nums b_Type_Members b_Type_Base b_Type_Count) fun r1 =>
      sif (!r1) (some false) <|
      sbind (laws_eqSpace a_Space_Dims a_Space_Max b_Space_Dims b_Space_Max) fun r2 =>
      sif (!r2) (some false) <|
      sbind (laws_eqInt64S a_Chunk b_Chunk) fun r3 =>
      sif (!r3) (some false) <|
      sbind (laws_eqFilterS a_Filters b_Filters) fun r4 =>
      sif (!r4) (some false) <|
      sif (!seq a_Fill b_Fill) (some false) (sif ((a_Index != b_Index)) (some false) (some true))) := sem_eq (f := 34) (m := 0) rfl (by kernel_rfl)
theorem laws_eqType_eq (a_Kind : Int) (a_Size : Int) (a_Signed : Bool) (a_Big : Bool) (a_Names : List ByteArray) (a_Nums : List Int) (a_Members : List (ByteArray × Int × Ty_Type)) (a_Base : List Ty_Type) (a_Count : Int) (b_Kind : Int) (b_Size : Int) (b_Signed : Bool) (b_Big : Bool) (b_Names : List ByteArray) (b_Nums : List Int) (b_Members : List (ByteArray × Int × Ty_Type)) (b_Base : List Ty_Type) (b_Count : Int) :
    laws_eqType a_Kind a_Size a_Signed a_Big a_Names a_Nums a_Members a_Base a_Count b_Kind b_Size b_Signed b_Big b_Names b_Nums b_Members b_Base b_Count = (
      sif ((a_Kind != b_Kind)) (some false) <|
      sif ((a_Size != b_Size)) (some false) <|
      sif (!(a_Signed == b_Signed)) (some false) <|
      sif (!(a_Big == b_Big)) (some false) <|
      sbind (laws_eqStringS a_Names b_Names) fun r1 =>
      sif (!r1) (some false) <|
      sbind (laws_eqInt64S a_Nums b_Nums) fun r2 =>
      sif (!r2) (some false) <|
      sbind (laws_eqMemberS a_Members b_Members) fun r3 =>
      sif (!r3) (some false) <|
      sbind (laws_eqTypeS a_Base b_Base) fun r4 =>
      sif (!r4) (some false) (sif ((a_Count != b_Count)) (some false) (some true))) := sem_eq (f := 18) (m := 0) rfl (by kernel_rfl)
theorem laws_eqStringS_eq (a : List ByteArray) (b : List ByteArray) :
    laws_eqStringS a b = (
      sif (((a.length : Int) != (b.length : Int))) (some false) (laws_eqStringS_l4 a b 0)) := sem_eq (f := 51) (m := 0) rfl (by kernel_rfl)
theorem laws_eqStringS_l4_eq (a : List ByteArray) (b : List ByteArray) (i : Int) :
    laws_eqStringS_l4 a b i = (
      sif (decide (i < (a.length : Int)))
       (sbind (idx a i) fun x1 =>
        sbind (idx b i) fun x2 =>
        sif (!seq x1 x2) (some false) (laws_eqStringS_l4 a b (wi64 (i + 1)))) (some true)) := seml_eq (f := 51) (m := 0) (l := 4) (by kernel_rfl)
theorem laws_eqInt64S_eq (a : List Int) (b : List Int) :
    laws_eqInt64S a b = (
      sif (((a.length : Int) != (b.length : Int))) (some false) (laws_eqInt64S_l4 a b 0)) := sem_eq (f := 22) (m := 0) rfl (by kernel_rfl)
theorem laws_eqInt64S_l4_eq (a : List Int) (b : List Int) (i : Int) :
    laws_eqInt64S_l4 a b i = (
      sif (decide (i < (a.length : Int)))
       (sbind (idx a i) fun x1 =>
        sbind (idx b i) fun x2 =>
        sif ((x1 != x2)) (some false) (laws_eqInt64S_l4 a b (wi64 (i + 1)))) (some true)) := seml_eq (f := 22) (m := 0) (l := 4) (by kernel_rfl)
theorem laws_eqMemberS_eq (a : List (ByteArray × Int × Ty_Type)) (b : List (ByteArray × Int × Ty_Type)) :
    laws_eqMemberS a b = (
      sif (((a.length : Int) != (b.length : Int))) (some false) (laws_eqMemberS_l4 a b 0)) := sem_eq (f := 52) (m := 0) rfl (by kernel_rfl)
theorem laws_eqMemberS_l4_eq (a : List (ByteArray × Int × Ty_Type)) (b : List (ByteArray × Int × Ty_Type)) (i : Int) :
    laws_eqMemberS_l4 a b i = (
      sif (decide (i < (a.length : Int)))
       (sbind (idx a i) fun x1 =>
        sbind (idx b i) fun x2 =>
        sbind (laws_eqMember x1.1 x1.2.1 x1.2.2.f_Kind x1.2.2.f_Size x1.2.2.f_Signed x1.2.2.f_Big x1.2.2.f_Names x1.2.2.f_Nums x1.2.2.f_Members x1.2.2.f_Base x1.2.2.f_Count x2.1 x2.2.1 x2.2.2.f_Kind x2.2.2.f_Size x2.2.2.f_Signed x2.2.2.f_Big x2.2.2.f_Names x2.2.2.f_Nums x2.2.2.f_Members x2.2.2.f_Base x2.2.2.f_Count) fun r3 =>
        sif (!r3) (some false) (laws_eqMemberS_l4 a b (wi64 (i + 1)))) (some true)) := seml_eq (f := 52) (m := 0) (l := 4) (by kernel_rfl)
theorem laws_eqMember_eq (a_Name : ByteArray) (a_Offset : Int) (a_Type_Kind : Int) (a_Type_Size : Int) (a_Type_Signed : Bool) (a_Type_Big : Bool) (a_Type_Names : List ByteArray) (a_Type_Nums : List Int) (a_Type_Members : List (ByteArray × Int × Ty_Type)) (a_Type_Base : List Ty_Type) (a_Type_Count : Int) (b_Name : ByteArray) (b_Offset : Int) (b_Type_Kind : Int) (b_Type_Size : Int) (b_Type_Signed : Bool) (b_Type_Big : Bool) (b_Type_Names : List ByteArray) (b_Type_Nums : List Int) (b_Type_Members : List (ByteArray × Int × Ty_Type)) (b_Type_Base : List Ty_Type) (b_Type_Count : Int) :
    laws_eqMember a_Name a_Offset a_Type_Kind a_Type_Size a_Type_Signed a_Type_Big a_Type_Names a_Type_Nums a_Type_Members a_Type_Base a_Type_Count b_Name b_Offset b_Type_Kind b_Type_Size b_Type_Signed b_Type_Big b_Type_Names b_Type_Nums b_Type_Members b_Type_Base b_Type_Count = (
      sif (!seq a_Name b_Name) (some false) <|
      sif ((a_Offset != b_Offset)) (some false) <|
      sbind (laws_eqType a_Type_Kind a_Type_Size a_Type_Signed a_Type_Big a_Type_Names a_Type_Nums a_Type_Members a_Type_Base a_Type_Count b_Type_Kind b_Type_Size b_Type_Signed b_Type_Big b_Type_Names b_Type_Nums b_Type_Members b_Type_Base b_Type_Count) fun r1 =>
      sif (!r1) (some false) (some true)) := sem_eq (f := 98) (m := 0) rfl (by kernel_rfl)
theorem laws_eqTypeS_eq (a : List Ty_Type) (b : List Ty_Type) :
    laws_eqTypeS a b = (
      sif (((a.length : Int) != (b.length : Int))) (some false) (laws_eqTypeS_l4 a b 0)) := sem_eq (f := 53) (m := 0) rfl (by kernel_rfl)
theorem laws_eqTypeS_l4_eq (a : List Ty_Type) (b : List Ty_Type) (i : Int) :
    laws_eqTypeS_l4 a b i = (
      sif (decide (i < (a.length : Int)))
       (sbind (idx a i) fun x1 =>
        sbind (idx b i) fun x2 =>
        sbind (laws_eqType x1.f_Kind x1.f_Size x1.f_Signed x1.f_Big x1.f_Names x1.f_Nums x1.f_Members x1.f_Base x1.f_Count x2.f_Kind x2.f_Size x2.f_Signed x2.f_Big x2.f_Names x2.f_Nums x2.f_Members x2.f_Base x2.f_Count) fun r3 =>
        sif (!r3) (some false) (laws_eqTypeS_l4 a b (wi64 (i + 1)))) (some true)) := seml_eq (f := 53) (m := 0) (l := 4) (by kernel_rfl)
theorem laws_eqSpace_eq (a_Dims : List Int) (a_Max : List Int) (b_Dims : List Int) (b_Max : List Int) :
    laws_eqSpace a_Dims a_Max b_Dims b_Max = (
      sbind (laws_eqInt64S a_Dims b_Dims) fun r1 =>
      sif (!r1) (some false) <|
      sbind (laws_eqInt64S a_Max b_Max) fun r2 =>
      sif (!r2) (some false) (some true)) := sem_eq (f := 76) (m := 0) rfl (by kernel_rfl)
theorem laws_eqFilterS_eq (a : List (Int × Int × Bool)) (b : List (Int × Int × Bool)) :
    laws_eqFilterS a b = (
      sif (((a.length : Int) != (b.length : Int))) (some false) (laws_eqFilterS_l4 a b 0)) := sem_eq (f := 77) (m := 0) rfl (by kernel_rfl)
theorem laws_eqFilterS_l4_eq (a : List (Int × Int × Bool)) (b : List (Int × Int × Bool)) (i : Int) :
    laws_eqFilterS_l4 a b i = (
      sif (decide (i < (a.length : Int)))
       (sbind (idx a i) fun x1 =>
        sbind (idx b i) fun x2 =>
        sbind (laws_eqFilter x1.1 x1.2.1 x1.2.2 x2.1 x2.2.1 x2.2.2) fun r3 =>
        sif (!r3) (some false) (laws_eqFilterS_l4 a b (wi64 (i + 1)))) (some true)) := seml_eq (f := 77) (m := 0) (l := 4) (by kernel_rfl)
theorem laws_eqFilter_eq (a_Kind : Int) (a_Param : Int) (a_Optional : Bool) (b_Kind : Int) (b_Param : Int) (b_Optional : Bool) :
    laws_eqFilter a_Kind a_Param a_Optional b_Kind b_Param b_Optional = (
      sif ((a_Kind != b_Kind)) (some false) <|
      sif ((a_Param != b_Param)) (some false) <|
      sif (!(a_Optional == b_Optional)) (some false) (some true)) := sem_eq (f := 122) (m := 0) rfl (by kernel_rfl)
def Ok_Ty_Type (x : Ty_Type) : Prop := ((Lit.int .i64 x.f_Kind).wf = true) ∧ ((Lit.int .i64 x.f_Size).wf = true) ∧ (True) ∧ (True) ∧ (x.f_Names.length ≤ maxLen ∧ x.f_Names.length * 16 ≤ 140737488351232 ∧ ∀ e_ ∈ x.f_Names, e_.size ≤ 140737488351232) ∧ (x.f_Nums.length ≤ maxLen ∧ x.f_Nums.length * 8 ≤ 140737488351232 ∧ ∀ e_ ∈ x.f_Nums, (Lit.int .i64 e_).wf = true) ∧ (x.f_Members.length ≤ maxLen ∧ x.f_Members.length * 152 ≤ 140737488351232 ∧ ∀ e_ ∈ x.f_Members, (e_.1.size ≤ 140737488351232) ∧ ((Lit.int .i64 e_.2.1).wf = true) ∧ (Ok_Ty_Type e_.2.2)) ∧ (x.f_Base.length ≤ maxLen ∧ x.f_Base.length * 128 ≤ 140737488351232 ∧ ∀ e_ ∈ x.f_Base, Ok_Ty_Type e_) ∧ ((Lit.int .i64 x.f_Count).wf = true)
termination_by SizeOf.sizeOf x
decreasing_by
  · obtain ⟨⟩ := x
    have h1 := List.sizeOf_lt_of_mem ‹_ ∈ _›
    obtain ⟨a0, a1, a2⟩ := e_
    simp [Ty_Type.f_Members] at h1 ⊢
    omega
  · obtain ⟨⟩ := x
    have h1 := List.sizeOf_lt_of_mem ‹_ ∈ _›
    simp [Ty_Type.f_Base] at h1 ⊢
    omega
theorem Ok_Ty_Type.mk (x : Ty_Type) (h : ((Lit.int .i64 x.f_Kind).wf = true) ∧ ((Lit.int .i64 x.f_Size).wf = true) ∧ (True) ∧ (True) ∧ (x.f_Names.length ≤ maxLen ∧ x.f_Names.length * 16 ≤ 140737488351232 ∧ ∀ e_ ∈ x.f_Names, e_.size ≤ 140737488351232) ∧ (x.f_Nums.length ≤ maxLen ∧ x.f_Nums.length * 8 ≤ 140737488351232 ∧ ∀ e_ ∈ x.f_Nums, (Lit.int .i64 e_).wf = true) ∧ (x.f_Members.length ≤ maxLen ∧ x.f_Members.length * 152 ≤ 140737488351232 ∧ ∀ e_ ∈ x.f_Members, (e_.1.size ≤ 140737488351232) ∧ ((Lit.int .i64 e_.2.1).wf = true) ∧ (Ok_Ty_Type e_.2.2)) ∧ (x.f_Base.length ≤ maxLen ∧ x.f_Base.length * 128 ≤ 140737488351232 ∧ ∀ e_ ∈ x.f_Base, Ok_Ty_Type e_) ∧ ((Lit.int .i64 x.f_Count).wf = true)) : Ok_Ty_Type x := by rw [Ok_Ty_Type]; exact h
theorem Ok_Ty_Type.out {x : Ty_Type} (h : Ok_Ty_Type x) : ((Lit.int .i64 x.f_Kind).wf = true) ∧ ((Lit.int .i64 x.f_Size).wf = true) ∧ (True) ∧ (True) ∧ (x.f_Names.length ≤ maxLen ∧ x.f_Names.length * 16 ≤ 140737488351232 ∧ ∀ e_ ∈ x.f_Names, e_.size ≤ 140737488351232) ∧ (x.f_Nums.length ≤ maxLen ∧ x.f_Nums.length * 8 ≤ 140737488351232 ∧ ∀ e_ ∈ x.f_Nums, (Lit.int .i64 e_).wf = true) ∧ (x.f_Members.length ≤ maxLen ∧ x.f_Members.length * 152 ≤ 140737488351232 ∧ ∀ e_ ∈ x.f_Members, (e_.1.size ≤ 140737488351232) ∧ ((Lit.int .i64 e_.2.1).wf = true) ∧ (Ok_Ty_Type e_.2.2)) ∧ (x.f_Base.length ≤ maxLen ∧ x.f_Base.length * 128 ≤ 140737488351232 ∧ ∀ e_ ∈ x.f_Base, Ok_Ty_Type e_) ∧ ((Lit.int .i64 x.f_Count).wf = true) := by rw [Ok_Ty_Type] at h; exact h
end Go.Ve.X
