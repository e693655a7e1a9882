/- The equations of the functions that 'FnExactValidVirtual' reaches (printed by plan.py): what each answers. No condition. -/
import Derived.Test.YtaijkhkgjedkaaaGreatDoorEnvFnExactValidVirtual
namespace Go.Ve.X
open Go.Proofs Go.Ve Go.RowKit
set_option linter.unusedVariables false
set_option maxRecDepth 100000
theorem laws_FnExactValidVirtual_eq (aV_Type_Kind : Int) (aV_Type_Size : Int) (aV_Type_Signed : Bool) (aV_Type_Big : Bool) (aV_Type_Names : List ByteArray) (aV_Type_Nums : List Int) (aV_Type_Members : List (ByteArray × Int × Ty_Type)) (aV_Type_Base : List Ty_Type) (aV_Type_Count : Int) (aV_Dims : List Int) (aV_Fill : ByteArray) (aV_Maps : List (ByteArray × Int × List Int × List Int × List Int × List Int × List (List Int) × Int × List Int × List Int × List Int × List Int × List (List Int))) :
    laws_FnExactValidVirtual aV_Type_Kind aV_Type_Size aV_Type_Signed aV_Type_Big aV_Type_Names aV_Type_Nums aV_Type_Members aV_Type_Base aV_Type_Count aV_Dims aV_Fill aV_Maps = (
      sbind (laws_szVirtual aV_Type_Kind aV_Type_Size aV_Type_Signed aV_Type_Big aV_Type_Names aV_Type_Nums aV_Type_Members aV_Type_Base aV_Type_Count aV_Dims aV_Fill aV_Maps 1048576) fun r1 =>
      sif (decide (r1 < 0)) (some true) <|
      sbind (laws_toVirtual aV_Type_Kind aV_Type_Size aV_Type_Signed aV_Type_Big aV_Type_Names aV_Type_Nums aV_Type_Members aV_Type_Base aV_Type_Count aV_Dims aV_Fill aV_Maps) fun r2 =>
      sbind (spec_ValidVirtual r2.1 r2.2.1 r2.2.2.1 r2.2.2.2.1 r2.2.2.2.2.2.2.1 r2.2.2.2.2.2.2.2.1 r2.2.2.2.2.2.2.2.2.1 r2.2.2.2.2.2.2.2.2.2.1 r2.2.2.2.2.1 r2.2.2.2.2.2.2.2.2.2.2.1 r2.2.2.2.2.2.1 r2.2.2.2.2.2.2.2.2.2.2.2) fun r3 =>
      sbind (laws_toVirtual aV_Type_Kind aV_Type_Size aV_Type_Signed aV_Type_Big aV_Type_Names aV_Type_Nums aV_Type_Members aV_Type_Base aV_Type_Count aV_Dims aV_Fill aV_Maps) fun r4 =>
      sbind (impl_ValidVirtual r4.1 r4.2.1 r4.2.2.1 r4.2.2.2.1 r4.2.2.2.2.2.2.1 r4.2.2.2.2.2.2.2.1 r4.2.2.2.2.2.2.2.2.1 r4.2.2.2.2.2.2.2.2.2.1 r4.2.2.2.2.1 r4.2.2.2.2.2.2.2.2.2.2.1 r4.2.2.2.2.2.1 r4.2.2.2.2.2.2.2.2.2.2.2) fun r5 =>
      sif (!(r5 == r3)) (some false) <|
      sbind (laws_toVirtual aV_Type_Kind aV_Type_Size aV_Type_Signed aV_Type_Big aV_Type_Names aV_Type_Nums aV_Type_Members aV_Type_Base aV_Type_Count aV_Dims aV_Fill aV_Maps) fun r6 =>
      sbind (laws_eqVirtual r4.1 r4.2.1 r4.2.2.1 r4.2.2.2.1 r4.2.2.2.2.2.2.1 r4.2.2.2.2.2.2.2.1 r4.2.2.2.2.2.2.2.2.1 r4.2.2.2.2.2.2.2.2.2.1 r4.2.2.2.2.1 r4.2.2.2.2.2.2.2.2.2.2.1 r4.2.2.2.2.2.1 r4.2.2.2.2.2.2.2.2.2.2.2 r6.1 r6.2.1 r6.2.2.1 r6.2.2.2.1 r6.2.2.2.2.2.2.1 r6.2.2.2.2.2.2.2.1 r6.2.2.2.2.2.2.2.2.1 r6.2.2.2.2.2.2.2.2.2.1 r6.2.2.2.2.1 r6.2.2.2.2.2.2.2.2.2.2.1 r6.2.2.2.2.2.1 r6.2.2.2.2.2.2.2.2.2.2.2) fun r7 =>
      sif (!r7) (some false) (some true)) := sem_eq (f := 8) (m := 0) rfl (by kernel_rfl)
theorem laws_szVirtual_eq (a_Type_Kind : Int) (a_Type_Size : Int) (a_Type_Signed : Bool) (a_Type_Big : Bool) (a_Type_Names : List ByteArray) (a_Type_Nums : List Int) (a_Type_Members : List (ByteArray × Int × Ty_Type)) (a_Type_Base : List Ty_Type) (a_Type_Count : Int) (a_Dims : List Int) (a_Fill : ByteArray) (a_Maps : List (ByteArray × Int × List Int × List Int × List Int × List Int × List (List Int) × Int × List Int × List Int × List Int × List Int × List (List Int))) (left : Int) :
    laws_szVirtual a_Type_Kind a_Type_Size a_Type_Signed a_Type_Big a_Type_Names a_Type_Nums a_Type_Members a_Type_Base a_Type_Count a_Dims a_Fill a_Maps left = (
      sbind (laws_szType a_Type_Kind a_Type_Size a_Type_Signed a_Type_Big a_Type_Names a_Type_Nums a_Type_Members a_Type_Base a_Type_Count left) fun r1 =>
      sif (decide (r1 < 0)) (some (-1)) <|
      sbind (laws_szInt64S a_Dims r1) fun r2 =>
      sif (decide (r2 < 0)) (some (-1)) <|
      sif (decide (wi64 (r2 - (a_Fill.size : Int)) < 0)) (some (-1)) <|
      sbind (laws_szMappingS a_Maps (wi64 (r2 - (a_Fill.size : Int)))) fun r3 =>
      sif (decide (r3 < 0)) (some (-1)) (some r3)) := sem_eq (f := 9) (m := 0) rfl (by kernel_rfl)
theorem laws_szType_eq (a_Kind : Int) (a_Size : Int) (a_Signed : Bool) (a_Big : Bool) (a_Names : List ByteArray) (a_Nums : List Int) (a_Members : List (ByteArray × Int × Ty_Type)) (a_Base : List Ty_Type) (a_Count : Int) (left : Int) :
    laws_szType a_Kind a_Size a_Signed a_Big a_Names a_Nums a_Members a_Base a_Count left = (
      sbind (laws_szStringS a_Names left) fun r1 =>
      sif (decide (r1 < 0)) (some (-1)) <|
      sbind (laws_szInt64S a_Nums r1) fun r2 =>
      sif (decide (r2 < 0)) (some (-1)) <|
      sbind (laws_szMemberS a_Members r2) fun r3 =>
      sif (decide (r3 < 0)) (some (-1)) <|
      sbind (laws_szTypeS a_Base r3) fun r4 =>
      sif (decide (r4 < 0)) (some (-1)) (some r4)) := sem_eq (f := 27) (m := 0) rfl (by kernel_rfl)
theorem laws_szStringS_eq (a : List ByteArray) (left : Int) :
    laws_szStringS a left = (
      sif (decide (wi64 (left - (a.length : Int)) < 0)) (some (-1)) <|
      laws_szStringS_l5 a (wi64 (left - (a.length : Int))) 0) := sem_eq (f := 68) (m := 0) rfl (by kernel_rfl)
theorem laws_szStringS_l5_eq (a : List ByteArray) (left : Int) (i : Int) :
    laws_szStringS_l5 a left i = (
      sif (decide (i < (a.length : Int)))
       (sbind (idx a i) fun x1 =>
        sif (decide (wi64 (left - (x1.size : Int)) < 0)) (some (-1)) <|
        laws_szStringS_l5 a (wi64 (left - (x1.size : Int))) (wi64 (i + 1))) (some left)) := seml_eq (f := 68) (m := 0) (l := 5) (by kernel_rfl)
theorem laws_szInt64S_eq (a : List Int) (left : Int) :
    laws_szInt64S a left = (
      sif (decide (wi64 (left - (a.length : Int)) < 0)) (some (-1)) (some (wi64 (left - (a.length : Int))))) := sem_eq (f := 42) (m := 0) rfl (by kernel_rfl)
theorem laws_szMemberS_eq (a : List (ByteArray × Int × Ty_Type)) (left : Int) :
    laws_szMemberS a left = (
      sif (decide (wi64 (left - (a.length : Int)) < 0)) (some (-1)) <|
      laws_szMemberS_l5 a (wi64 (left - (a.length : Int))) 0) := sem_eq (f := 69) (m := 0) rfl (by kernel_rfl)
theorem laws_szMemberS_l5_eq (a : List (ByteArray × Int × Ty_Type)) (left : Int) (i : Int) :
    laws_szMemberS_l5 a left i = (
      sif (decide (i < (a.length : Int)))
       (sbind (idx a i) fun x1 =>
        sbind (laws_szMember x1.1 x1.2.1 x1.2.2.f_Kind x1.2.2.f_Size x1.2.2.f_Signed x1.2.2.f_Big x1.2.2.f_Names x1.2.2.f_Nums x1.2.2.f_Members x1.2.2.f_Base x1.2.2.f_Count left) fun r2 =>
        sif (decide (r2 < 0)) (some (-1)) (laws_szMemberS_l5 a r2 (wi64 (i + 1)))) (some left)) := seml_eq (f := 69) (m := 0) (l := 5) (by kernel_rfl)
theorem laws_szMember_eq (a_Name : ByteArray) (a_Offset : Int) (a_Type_Kind : Int) (a_Type_Size : Int) (a_Type_Signed : Bool) (a_Type_Big : Bool) (a_Type_Names : List ByteArray) (a_Type_Nums : List Int) (a_Type_Members : List (ByteArray × Int × Ty_Type)) (a_Type_Base : List Ty_Type) (a_Type_Count : Int) (left : Int) :
    laws_szMember a_Name a_Offset a_Type_Kind a_Type_Size a_Type_Signed a_Type_Big a_Type_Names a_Type_Nums a_Type_Members a_Type_Base a_Type_Count left = (
      sif (decide (wi64 (left - (a_Name.size : Int)) < 0)) (some (-1)) <|
      sbind (laws_szType a_Type_Kind a_Type_Size a_Type_Signed a_Type_Big a_Type_Names a_Type_Nums a_Type_Members a_Type_Base a_Type_Count (wi64 (left - (a_Name.size : Int)))) fun r1 =>
      sif (decide (r1 < 0)) (some (-1)) (some r1)) := sem_eq (f := 141) (m := 0) rfl (by kernel_rfl)
theorem laws_szTypeS_eq (a : List Ty_Type) (left : Int) :
    laws_szTypeS a left = (
      sif (decide (wi64 (left - (a.length : Int)) < 0)) (some (-1)) <|
      laws_szTypeS_l5 a (wi64 (left - (a.length : Int))) 0) := sem_eq (f := 70) (m := 0) rfl (by kernel_rfl)
theorem laws_szTypeS_l5_eq (a : List Ty_Type) (left : Int) (i : Int) :
    laws_szTypeS_l5 a left i = (
      sif (decide (i < (a.length : Int)))
       (sbind (idx a i) fun x1 =>
        sbind (laws_szType x1.f_Kind x1.f_Size x1.f_Signed x1.f_Big x1.f_Names x1.f_Nums x1.f_Members x1.f_Base x1.f_Count left) fun r2 =>
        sif (decide (r2 < 0)) (some (-1)) (laws_szTypeS_l5 a r2 (wi64 (i + 1)))) (some left)) := seml_eq (f := 70) (m := 0) (l := 5) (by kernel_rfl)
theorem laws_szMappingS_eq (a : List (ByteArray × Int × List Int × List Int × List Int × List Int × List (List Int) × Int × List Int × List Int × List Int × List Int × List (List Int))) (left : Int) :
    laws_szMappingS a left = (
      sif (decide (wi64 (left - (a.length : Int)) < 0)) (some (-1)) <|
      laws_szMappingS_l5 a (wi64 (left - (a.length : Int))) 0) := sem_eq (f := 43) (m := 0) rfl (by kernel_rfl)
theorem laws_szMappingS_l5_eq (a : List (ByteArray × Int × List Int × List Int × List Int × List Int × List (List Int) × Int × List Int × List Int × List Int × List Int × List (List Int))) (left : Int) (i : Int) :
    laws_szMappingS_l5 a left i = (
      sif (decide (i < (a.length : Int)))
       (sbind (idx a i) fun x1 =>
        sbind (laws_szMapping x1.1 x1.2.1 x1.2.2.1 x1.2.2.2.1 x1.2.2.2.2.1 x1.2.2.2.2.2.1 x1.2.2.2.2.2.2.1 x1.2.2.2.2.2.2.2.1 x1.2.2.2.2.2.2.2.2.1 x1.2.2.2.2.2.2.2.2.2.1 x1.2.2.2.2.2.2.2.2.2.2.1 x1.2.2.2.2.2.2.2.2.2.2.2.1 x1.2.2.2.2.2.2.2.2.2.2.2.2 left) fun r2 =>
        sif (decide (r2 < 0)) (some (-1)) (laws_szMappingS_l5 a r2 (wi64 (i + 1)))) (some left)) := seml_eq (f := 43) (m := 0) (l := 5) (by kernel_rfl)
theorem laws_szMapping_eq (a_Path : ByteArray) (a_Source_Kind : Int) (a_Source_Start : List Int) (a_Source_Stride : List Int) (a_Source_Count : List Int) (a_Source_Block : List Int) (a_Source_Points : List (List Int)) (a_Target_Kind : Int) (a_Target_Start : List Int) (a_Target_Stride : List Int) (a_Target_Count : List Int) (a_Target_Block : List Int) (a_Target_Points : List (List Int)) (left : Int) :
    laws_szMapping a_Path a_Source_Kind a_Source_Start a_Source_Stride a_Source_Count a_Source_Block a_Source_Points a_Target_Kind a_Target_Start a_Target_Stride a_Target_Count a_Target_Block a_Target_Points left = (
      sif (decide (wi64 (left - (a_Path.size : Int)) < 0)) (some (-1)) <|
      sbind (laws_szSelection a_Source_Kind a_Source_Start a_Source_Stride a_Source_Count a_Source_Block a_Source_Points (wi64 (left - (a_Path.size : Int)))) fun r1 =>
      sif (decide (r1 < 0)) (some (-1)) <|
      sbind (laws_szSelection a_Target_Kind a_Target_Start a_Target_Stride a_Target_Count a_Target_Block a_Target_Points r1) fun r2 =>
      sif (decide (r2 < 0)) (some (-1)) (some r2)) := sem_eq (f := 95) (m := 0) rfl (by kernel_rfl)
theorem laws_szSelection_eq (a_Kind : Int) (a_Start : List Int) (a_Stride : List Int) (a_Count : List Int) (a_Block : List Int) (a_Points : List (List Int)) (left : Int) :
    laws_szSelection a_Kind a_Start a_Stride a_Count a_Block a_Points left = (
      sbind (laws_szInt64S a_Start left) fun r1 =>
      sif (decide (r1 < 0)) (some (-1)) <|
      sbind (laws_szInt64S a_Stride r1) fun r2 =>
      sif (decide (r2 < 0)) (some (-1)) <|
      sbind (laws_szInt64S a_Count r2) fun r3 =>
      sif (decide (r3 < 0)) (some (-1)) <|
      sbind (laws_szInt64S a_Block r3) fun r4 =>
      sif (decide (r4 < 0)) (some (-1)) <|
      sbind (laws_szPointS a_Points r4) fun r5 =>
      sif (decide (r5 < 0)) (some (-1)) (some r5)) := sem_eq (f := 33) (m := 0) rfl (by kernel_rfl)
theorem laws_szPointS_eq (a : List (List Int)) (left : Int) :
    laws_szPointS a left = (
      sif (decide (wi64 (left - (a.length : Int)) < 0)) (some (-1)) <|
      laws_szPointS_l5 a (wi64 (left - (a.length : Int))) 0) := sem_eq (f := 80) (m := 0) rfl (by kernel_rfl)
theorem laws_szPointS_l5_eq (a : List (List Int)) (left : Int) (i : Int) :
    laws_szPointS_l5 a left i = (
      sif (decide (i < (a.length : Int)))
       (sbind (idx a i) fun x1 =>
        sbind (laws_szPoint x1 left) fun r2 =>
        sif (decide (r2 < 0)) (some (-1)) (laws_szPointS_l5 a r2 (wi64 (i + 1)))) (some left)) := seml_eq (f := 80) (m := 0) (l := 5) (by kernel_rfl)
theorem laws_szPoint_eq (a_At : List Int) (left : Int) :
    laws_szPoint a_At left = (
      sbind (laws_szInt64S a_At left) fun r1 =>
      sif (decide (r1 < 0)) (some (-1)) (some r1)) := sem_eq (f := 155) (m := 0) rfl (by kernel_rfl)
theorem laws_toVirtual_eq (a_Type_Kind : Int) (a_Type_Size : Int) (a_Type_Signed : Bool) (a_Type_Big : Bool) (a_Type_Names : List ByteArray) (a_Type_Nums : List Int) (a_Type_Members : List (ByteArray × Int × Ty_Type)) (a_Type_Base : List Ty_Type) (a_Type_Count : Int) (a_Dims : List Int) (a_Fill : ByteArray) (a_Maps : List (ByteArray × Int × List Int × List Int × List Int × List Int × List (List Int) × Int × List Int × List Int × List Int × List Int × List (List Int))) :
    laws_toVirtual a_Type_Kind a_Type_Size a_Type_Signed a_Type_Big a_Type_Names a_Type_Nums a_Type_Members a_Type_Base a_Type_Count a_Dims a_Fill a_Maps = (
      sbind (laws_toType a_Type_Kind a_Type_Size a_Type_Signed a_Type_Big a_Type_Names a_Type_Nums a_Type_Members a_Type_Base a_Type_Count) fun r1 =>
      sbind (laws_toInt64S a_Dims) fun r2 =>
      sbind (laws_toMappingS a_Maps) fun r3 =>
      some (r1.1, r1.2.1, r1.2.2.1, r1.2.2.2.1, r1.2.2.2.2.1, a_Fill, r1.2.2.2.2.2.1, r1.2.2.2.2.2.2.1, r1.2.2.2.2.2.2.2.1, r1.2.2.2.2.2.2.2.2, r2, r3)) := sem_eq (f := 11) (m := 0) rfl (by kernel_rfl)
theorem laws_toType_eq (a_Kind : Int) (a_Size : Int) (a_Signed : Bool) (a_Big : Bool) (a_Names : List ByteArray) (a_Nums : List Int) (a_Members : List (ByteArray × Int × Ty_Type)) (a_Base : List Ty_Type) (a_Count : Int) :
    laws_toType a_Kind a_Size a_Signed a_Big a_Names a_Nums a_Members a_Base a_Count = (
      sbind (laws_toStringS a_Names) fun r1 =>
      sbind (laws_toInt64S a_Nums) fun r2 =>
      sbind (laws_toMemberS a_Members) fun r3 =>
      sbind (laws_toTypeS a_Base) fun r4 =>
      some (a_Kind, a_Size, a_Signed, a_Big, a_Count, r1, r2, r3, r4)) := sem_eq (f := 29) (m := 0) rfl (by kernel_rfl)
theorem laws_toStringS_eq (a : List ByteArray) :
    laws_toStringS a = (
      sif (le3 0 (a.length : Int) (a.length : Int) && room a.length 16) (laws_toStringS_l3 a 0 (List.replicate a.length (bs [] : ByteArray))) (none)) := sem_eq (f := 73) (m := 0) rfl (by kernel_rfl)
theorem laws_toStringS_l3_eq (a : List ByteArray) (i : Int) (out : List ByteArray) :
    laws_toStringS_l3 a i out = (
      sif (decide (i < (a.length : Int)))
       (sbind (idx a i) fun x1 =>
        sif (lt3 0 i (out.length : Int)) (laws_toStringS_l3 a (wi64 (i + 1)) (out.set i.toNat x1)) (none)) (some out)) := seml_eq (f := 73) (m := 0) (l := 3) (by kernel_rfl)
theorem laws_toInt64S_eq (a : List Int) :
    laws_toInt64S a = (
      sif (le3 0 (a.length : Int) (a.length : Int) && room a.length 8) (laws_toInt64S_l3 a 0 (List.replicate a.length (0 : Int))) (none)) := sem_eq (f := 12) (m := 0) rfl (by kernel_rfl)
theorem laws_toInt64S_l3_eq (a : List Int) (i : Int) (out : List Int) :
    laws_toInt64S_l3 a i out = (
      sif (decide (i < (a.length : Int)))
       (sbind (idx a i) fun x1 =>
        sif (lt3 0 i (out.length : Int)) (laws_toInt64S_l3 a (wi64 (i + 1)) (out.set i.toNat x1)) (none)) (some out)) := seml_eq (f := 12) (m := 0) (l := 3) (by kernel_rfl)
theorem laws_toMemberS_eq (a : List (ByteArray × Int × Ty_Type)) :
    laws_toMemberS a = (
      sif (le3 0 (a.length : Int) (a.length : Int) && room a.length 152)
       (laws_toMemberS_l3 a 0 (List.replicate a.length ((bs [], 0, (Ty_Type.mk 0 0 false false ([] : List ByteArray) ([] : List Int) ([] : List (ByteArray × Int × Ty_Type)) ([] : List Ty_Type) 0)) : ByteArray × Int × Ty_Type))) (none)) := sem_eq (f := 74) (m := 0) rfl (by kernel_rfl)
theorem laws_toMemberS_l3_eq (a : List (ByteArray × Int × Ty_Type)) (i : Int) (out : List (ByteArray × Int × Ty_Type)) :
    laws_toMemberS_l3 a i out = (
      sif (decide (i < (a.length : Int)))
       (sbind (idx a i) fun x1 =>
        sbind (laws_toMember x1.1 x1.2.1 x1.2.2.f_Kind x1.2.2.f_Size x1.2.2.f_Signed x1.2.2.f_Big x1.2.2.f_Names x1.2.2.f_Nums x1.2.2.f_Members x1.2.2.f_Base x1.2.2.f_Count) fun r2 =>
        sif (lt3 0 i (out.length : Int))
         (laws_toMemberS_l3 a (wi64 (i + 1)) (out.set i.toNat (r2.1, r2.2.1, (Ty_Type.mk r2.2.2.1 r2.2.2.2.1 r2.2.2.2.2.1 r2.2.2.2.2.2.1 r2.2.2.2.2.2.2.2.1 r2.2.2.2.2.2.2.2.2.1 r2.2.2.2.2.2.2.2.2.2.1 r2.2.2.2.2.2.2.2.2.2.2 r2.2.2.2.2.2.2.1)))) (none)) (some out)) := seml_eq (f := 74) (m := 0) (l := 3) (by kernel_rfl)
theorem laws_toMember_eq (a_Name : ByteArray) (a_Offset : Int) (a_Type_Kind : Int) (a_Type_Size : Int) (a_Type_Signed : Bool) (a_Type_Big : Bool) (a_Type_Names : List ByteArray) (a_Type_Nums : List Int) (a_Type_Members : List (ByteArray × Int × Ty_Type)) (a_Type_Base : List Ty_Type) (a_Type_Count : Int) :
    laws_toMember a_Name a_Offset a_Type_Kind a_Type_Size a_Type_Signed a_Type_Big a_Type_Names a_Type_Nums a_Type_Members a_Type_Base a_Type_Count = (
      sbind (laws_toType a_Type_Kind a_Type_Size a_Type_Signed a_Type_Big a_Type_Names a_Type_Nums a_Type_Members a_Type_Base a_Type_Count) fun r1 =>
      some (a_Name, a_Offset, r1.1, r1.2.1, r1.2.2.1, r1.2.2.2.1, r1.2.2.2.2.1, r1.2.2.2.2.2.1, r1.2.2.2.2.2.2.1, r1.2.2.2.2.2.2.2.1, r1.2.2.2.2.2.2.2.2)) := sem_eq (f := 146) (m := 0) rfl (by kernel_rfl)
theorem laws_toTypeS_eq (a : List Ty_Type) :
    laws_toTypeS a = (
      sif (le3 0 (a.length : Int) (a.length : Int) && room a.length 128)
       (laws_toTypeS_l3 a 0 (List.replicate a.length ((Ty_Type.mk 0 0 false false ([] : List ByteArray) ([] : List Int) ([] : List (ByteArray × Int × Ty_Type)) ([] : List Ty_Type) 0) : Ty_Type))) (none)) := sem_eq (f := 75) (m := 0) rfl (by kernel_rfl)
theorem laws_toTypeS_l3_eq (a : List Ty_Type) (i : Int) (out : List Ty_Type) :
    laws_toTypeS_l3 a i out = (
      sif (decide (i < (a.length : Int)))
       (sbind (idx a i) fun x1 =>
        sbind (laws_toType x1.f_Kind x1.f_Size x1.f_Signed x1.f_Big x1.f_Names x1.f_Nums x1.f_Members x1.f_Base x1.f_Count) fun r2 =>
        sif (lt3 0 i (out.length : Int))
         (laws_toTypeS_l3 a (wi64 (i + 1)) (out.set i.toNat (Ty_Type.mk r2.1 r2.2.1 r2.2.2.1 r2.2.2.2.1 r2.2.2.2.2.2.1 r2.2.2.2.2.2.2.1 r2.2.2.2.2.2.2.2.1 r2.2.2.2.2.2.2.2.2 r2.2.2.2.2.1))) (none)) (some out)) := seml_eq (f := 75) (m := 0) (l := 3) (by kernel_rfl)
theorem laws_toMappingS_eq (a : List (ByteArray × Int × List Int × List Int × List Int × List Int × List (List Int) × Int × List Int × List Int × List Int × List Int × List (List Int))) :
    laws_toMappingS a = (
      sif (le3 0 (a.length : Int) (a.length : Int) && room a.length 272)
       (laws_toMappingS_l3 a 0 (List.replicate a.length ((bs [], 0, ([] : List Int), ([] : List Int), ([] : List Int), ([] : List Int), ([] : List (List Int)), 0, ([] : List Int), ([] : List Int), ([] : List Int), ([] : List Int), ([] : List (List Int))) : ByteArray × Int × List Int × List Int × List Int × List Int × List (List Int) × Int × List Int × List Int × List Int × List Int × List (List Int)))) (none)) := sem_eq (f := 46) (m := 0) rfl (by kernel_rfl)
theorem laws_toMappingS_l3_eq (a : List (ByteArray × Int × List Int × List Int × List Int × List Int × List (List Int) × Int × List Int × List Int × List Int × List Int × List (List Int))) (i : Int) (out : List (ByteArray × Int × List Int × List Int × List Int × List Int × List (List Int) × Int × List Int × List Int × List Int × List Int × List (List Int))) :
    laws_toMappingS_l3 a i out = (
      sif (decide (i < (a.length : Int)))
       (sbind (idx a i) fun x1 =>
        sbind (laws_toMapping x1.1 x1.2.1 x1.2.2.1 x1.2.2.2.1 x1.2.2.2.2.1 x1.2.2.2.2.2.1 x1.2.2.2.2.2.2.1 x1.2.2.2.2.2.2.2.1 x1.2.2.2.2.2.2.2.2.1 x1.2.2.2.2.2.2.2.2.2.1 x1.2.2.2.2.2.2.2.2.2.2.1 x1.2.2.2.2.2.2.2.2.2.2.2.1 x1.2.2.2.2.2.2.2.2.2.2.2.2) fun r2 =>
        sif (lt3 0 i (out.length : Int))
         (laws_toMappingS_l3 a (wi64 (i + 1)) (out.set i.toNat (r2.1, r2.2.1, r2.2.2.2.1, r2.2.2.2.2.1, r2.2.2.2.2.2.1, r2.2.2.2.2.2.2.1, r2.2.2.2.2.2.2.2.1, r2.2.2.1, r2.2.2.2.2.2.2.2.2.1, r2.2.2.2.2.2.2.2.2.2.1, r2.2.2.2.2.2.2.2.2.2.2.1, r2.2.2.2.2.2.2.2.2.2.2.2.1, r2.2.2.2.2.2.2.2.2.2.2.2.2))) (none)) (some out)) := seml_eq (f := 46) (m := 0) (l := 3) (by kernel_rfl)
theorem laws_toMapping_eq (a_Path : ByteArray) (a_Source_Kind : Int) (a_Source_Start : List Int) (a_Source_Stride : List Int) (a_Source_Count : List Int) (a_Source_Block : List Int) (a_Source_Points : List (List Int)) (a_Target_Kind : Int) (a_Target_Start : List Int) (a_Target_Stride : List Int) (a_Target_Count : List Int) (a_Target_Block : List Int) (a_Target_Points : List (List Int)) :
    laws_toMapping a_Path a_Source_Kind a_Source_Start a_Source_Stride a_Source_Count a_Source_Block a_Source_Points a_Target_Kind a_Target_Start a_Target_Stride a_Target_Count a_Target_Block a_Target_Points = (
      sbind (laws_toSelection a_Source_Kind a_Source_Start a_Source_Stride a_Source_Count a_Source_Block a_Source_Points) fun r1 =>
      sbind (laws_toSelection a_Target_Kind a_Target_Start a_Target_Stride a_Target_Count a_Target_Block a_Target_Points) fun r2 =>
      some (a_Path, r1.1, r2.1, r1.2.1, r1.2.2.1, r1.2.2.2.1, r1.2.2.2.2.1, r1.2.2.2.2.2, r2.2.1, r2.2.2.1, r2.2.2.2.1, r2.2.2.2.2.1, r2.2.2.2.2.2)) := sem_eq (f := 105) (m := 0) rfl (by kernel_rfl)
theorem laws_toSelection_eq (a_Kind : Int) (a_Start : List Int) (a_Stride : List Int) (a_Count : List Int) (a_Block : List Int) (a_Points : List (List Int)) :
    laws_toSelection a_Kind a_Start a_Stride a_Count a_Block a_Points = (
      sbind (laws_toInt64S a_Start) fun r1 =>
      sbind (laws_toInt64S a_Stride) fun r2 =>
      sbind (laws_toInt64S a_Count) fun r3 =>
      sbind (laws_toInt64S a_Block) fun r4 =>
      sbind (laws_toPointS a_Points) fun r5 =>
      some (a_Kind, r1, r2, r3, r4, r5)) := sem_eq (f := 36) (m := 0) rfl (by kernel_rfl)
theorem laws_toPointS_eq (a : List (List Int)) :
    laws_toPointS a = (
      sif (le3 0 (a.length : Int) (a.length : Int) && room a.length 24) (laws_toPointS_l3 a 0 (List.replicate a.length (([] : List Int) : List Int))) (none)) := sem_eq (f := 84) (m := 0) rfl (by kernel_rfl)
theorem laws_toPointS_l3_eq (a : List (List Int)) (i : Int) (out : List (List Int)) :
    laws_toPointS_l3 a i out = (
      sif (decide (i < (a.length : Int)))
       (sbind (idx a i) fun x1 =>
        sbind (laws_toPoint x1) fun r2 =>
        sif (lt3 0 i (out.length : Int)) (laws_toPointS_l3 a (wi64 (i + 1)) (out.set i.toNat r2)) (none)) (some out)) := seml_eq (f := 84) (m := 0) (l := 3) (by kernel_rfl)
theorem laws_toPoint_eq (a_At : List Int) :
    laws_toPoint a_At = (
      sbind (laws_toInt64S a_At) fun r1 =>
      some r1) := sem_eq (f := 160) (m := 0) rfl (by kernel_rfl)
theorem spec_ValidVirtual_eq (v_Type_Kind : Int) (v_Type_Size : Int) (v_Type_Signed : Bool) (v_Type_Big : Bool) (v_Type_Names : List ByteArray) (v_Type_Nums : List Int) (v_Type_Members : List (ByteArray × Int × Ty_Type)) (v_Type_Base : List Ty_Type) (v_Type_Count : Int) (v_Dims : List Int) (v_Fill : ByteArray) (v_Maps : List (ByteArray × Int × List Int × List Int × List Int × List Int × List (List Int) × Int × List Int × List Int × List Int × List Int × List (List Int))) :
    spec_ValidVirtual v_Type_Kind v_Type_Size v_Type_Signed v_Type_Big v_Type_Names v_Type_Nums v_Type_Members v_Type_Base v_Type_Count v_Dims v_Fill v_Maps = (
      sbind (spec_l24Ok v_Type_Kind v_Type_Size v_Type_Signed v_Type_Big v_Type_Names v_Type_Nums v_Type_Members v_Type_Base v_Type_Count v_Dims v_Fill v_Maps) fun r1 =>
      some r1) := sem_eq (f := 40) (m := 0) rfl (by kernel_rfl)
theorem spec_l24Ok_eq (v_Type_Kind : Int) (v_Type_Size : Int) (v_Type_Signed : Bool) (v_Type_Big : Bool) (v_Type_Names : List ByteArray) (v_Type_Nums : List Int) (v_Type_Members : List (ByteArray × Int × Ty_Type)) (v_Type_Base : List Ty_Type) (v_Type_Count : Int) (v_Dims : List Int) (v_Fill : ByteArray) (v_Maps : List (ByteArray × Int × List Int × List Int × List Int × List Int × List (List Int) × Int × List Int × List Int × List Int × List Int × List (List Int))) :
    spec_l24Ok v_Type_Kind v_Type_Size v_Type_Signed v_Type_Big v_Type_Names v_Type_Nums v_Type_Members v_Type_Base v_Type_Count v_Dims v_Fill v_Maps = (
      sbind (spec_l02Ok v_Type_Kind v_Type_Size v_Type_Signed v_Type_Big v_Type_Names v_Type_Nums v_Type_Members v_Type_Base v_Type_Count) fun r1 =>
      sif (!r1) (some false) <|
      sbind (spec_EncodeType v_Type_Kind v_Type_Size v_Type_Signed v_Type_Big v_Type_Names v_Type_Nums v_Type_Members v_Type_Base v_Type_Count) fun r2 =>
      sif (decide ((r2.size : Int) > 200)) (some false) <|
      sbind (spec_l05Dims v_Dims) fun r3 =>
      sif (!r3) (some false) <|
      sbind (spec_l03Ok v_Type_Kind v_Type_Size v_Type_Signed v_Type_Big v_Type_Names v_Type_Nums v_Type_Members v_Type_Base v_Type_Count v_Fill) fun r4 =>
      sif (!r4) (some false) <|
      sif (decide ((v_Maps.length : Int) > 6)) (some false) <|
      spec_l24Ok_l4 0 v_Type_Kind v_Type_Size v_Type_Signed v_Type_Big v_Type_Names v_Type_Nums v_Type_Members v_Type_Base v_Type_Count v_Dims v_Fill v_Maps) := sem_eq (f := 44) (m := 0) rfl (by kernel_rfl)
theorem spec_l24Ok_l4_eq (i : Int) (v_Type_Kind : Int) (v_Type_Size : Int) (v_Type_Signed : Bool) (v_Type_Big : Bool) (v_Type_Names : List ByteArray) (v_Type_Nums : List Int) (v_Type_Members : List (ByteArray × Int × Ty_Type)) (v_Type_Base : List Ty_Type) (v_Type_Count : Int) (v_Dims : List Int) (v_Fill : ByteArray) (v_Maps : List (ByteArray × Int × List Int × List Int × List Int × List Int × List (List Int) × Int × List Int × List Int × List Int × List Int × List (List Int))) :
    spec_l24Ok_l4 i v_Type_Kind v_Type_Size v_Type_Signed v_Type_Big v_Type_Names v_Type_Nums v_Type_Members v_Type_Base v_Type_Count v_Dims v_Fill v_Maps = (
      sif (decide (i < (v_Maps.length : Int)))
       (sbind (idx v_Maps i) fun x1 =>
        sbind (spec_l24Formed x1.1 x1.2.1 x1.2.2.1 x1.2.2.2.1 x1.2.2.2.2.1 x1.2.2.2.2.2.1 x1.2.2.2.2.2.2.1 x1.2.2.2.2.2.2.2.1 x1.2.2.2.2.2.2.2.2.1 x1.2.2.2.2.2.2.2.2.2.1 x1.2.2.2.2.2.2.2.2.2.2.1 x1.2.2.2.2.2.2.2.2.2.2.2.1 x1.2.2.2.2.2.2.2.2.2.2.2.2) fun r2 =>
        sif (!r2) (some false) <|
        sbind (idx v_Maps i) fun x3 =>
        sbind (spec_l06Valid v_Dims x3.2.2.2.2.2.2.2.1 x3.2.2.2.2.2.2.2.2.1 x3.2.2.2.2.2.2.2.2.2.1 x3.2.2.2.2.2.2.2.2.2.2.1 x3.2.2.2.2.2.2.2.2.2.2.2.1 x3.2.2.2.2.2.2.2.2.2.2.2.2) fun r4 =>
        sif (!r4) (some false) <|
        spec_l24Ok_l4 (wi64 (i + 1)) v_Type_Kind v_Type_Size v_Type_Signed v_Type_Big v_Type_Names v_Type_Nums v_Type_Members v_Type_Base v_Type_Count v_Dims v_Fill v_Maps) (some true)) := seml_eq (f := 44) (m := 0) (l := 4) (by kernel_rfl)
theorem spec_l02Ok_eq (t_Kind : Int) (t_Size : Int) (t_Signed : Bool) (t_Big : Bool) (t_Names : List ByteArray) (t_Nums : List Int) (t_Members : List (ByteArray × Int × Ty_Type)) (t_Base : List Ty_Type) (t_Count : Int) :
    spec_l02Ok t_Kind t_Size t_Signed t_Big t_Names t_Nums t_Members t_Base t_Count = (
      sif ((t_Kind == 1))
       (sbind (spec_l02Int t_Kind t_Size t_Signed t_Big t_Names t_Nums t_Members t_Base t_Count) fun r1 =>
        spec_l02Ok_l15 r1 t_Kind t_Size t_Signed t_Big t_Names t_Nums t_Members t_Base t_Count) <|
      sif ((t_Kind == 2))
       (sbind (spec_l00In t_Size 1 16) fun r1 =>
        spec_l02Ok_l15 r1 t_Kind t_Size t_Signed t_Big t_Names t_Nums t_Members t_Base t_Count) <|
      sif ((t_Kind == 3))
       (sbind (spec_l02Enum t_Kind t_Size t_Signed t_Big t_Names t_Nums t_Members t_Base t_Count) fun r1 =>
        spec_l02Ok_l15 r1 t_Kind t_Size t_Signed t_Big t_Names t_Nums t_Members t_Base t_Count) <|
      sif ((t_Kind == 4))
       (sbind (spec_l02Compound t_Kind t_Size t_Signed t_Big t_Names t_Nums t_Members t_Base t_Count) fun r1 =>
        spec_l02Ok_l15 r1 t_Kind t_Size t_Signed t_Big t_Names t_Nums t_Members t_Base t_Count) <|
      sif ((t_Kind == 5))
       (sbind (spec_l02Array t_Kind t_Size t_Signed t_Big t_Names t_Nums t_Members t_Base t_Count) fun r1 =>
        spec_l02Ok_l15 r1 t_Kind t_Size t_Signed t_Big t_Names t_Nums t_Members t_Base t_Count) <|
      sif ((t_Kind == 6))
       (spec_l02Ok_l15 (t_Size == 2) t_Kind t_Size t_Signed t_Big t_Names t_Nums t_Members t_Base t_Count) <|
      spec_l02Ok_l15 false t_Kind t_Size t_Signed t_Big t_Names t_Nums t_Members t_Base t_Count) := sem_eq (f := 96) (m := 0) rfl (by kernel_rfl)
theorem spec_l02Ok_l15_eq (fine : Bool) (t_Kind : Int) (t_Size : Int) (t_Signed : Bool) (t_Big : Bool) (t_Names : List ByteArray) (t_Nums : List Int) (t_Members : List (ByteArray × Int × Ty_Type)) (t_Base : List Ty_Type) (t_Count : Int) :
    spec_l02Ok_l15 fine t_Kind t_Size t_Signed t_Big t_Names t_Nums t_Members t_Base t_Count = (
      sif ((t_Kind == 2))
       (sif (fine)
         (sbind (spec_l02Plain t_Kind t_Size t_Signed t_Big t_Names t_Nums t_Members t_Base t_Count) fun r1 =>
          sif (r1)
           (sif (((t_Names.length : Int) == 0))
             (sif (((t_Nums.length : Int) == 0))
               (sif (((t_Members.length : Int) == 0))
                 (sif (((t_Base.length : Int) == 0))
                   (spec_l02Ok_l17 (t_Count == 0) t_Kind t_Size t_Signed t_Big t_Names t_Nums t_Members t_Base t_Count) <|
                  spec_l02Ok_l17 false t_Kind t_Size t_Signed t_Big t_Names t_Nums t_Members t_Base t_Count) <|
                spec_l02Ok_l17 false t_Kind t_Size t_Signed t_Big t_Names t_Nums t_Members t_Base t_Count) <|
              spec_l02Ok_l17 false t_Kind t_Size t_Signed t_Big t_Names t_Nums t_Members t_Base t_Count) <|
            spec_l02Ok_l17 false t_Kind t_Size t_Signed t_Big t_Names t_Nums t_Members t_Base t_Count) <|
          spec_l02Ok_l17 false t_Kind t_Size t_Signed t_Big t_Names t_Nums t_Members t_Base t_Count) <|
        spec_l02Ok_l17 false t_Kind t_Size t_Signed t_Big t_Names t_Nums t_Members t_Base t_Count) <|
      sif ((t_Kind == 6))
       (sif (fine)
         (sbind (spec_l02Plain t_Kind t_Size t_Signed t_Big t_Names t_Nums t_Members t_Base t_Count) fun r1 =>
          sif (r1)
           (sif (((t_Names.length : Int) == 0))
             (sif (((t_Nums.length : Int) == 0))
               (sif (((t_Members.length : Int) == 0))
                 (sif (((t_Base.length : Int) == 0))
                   (spec_l02Ok_l17 (t_Count == 0) t_Kind t_Size t_Signed t_Big t_Names t_Nums t_Members t_Base t_Count) <|
                  spec_l02Ok_l17 false t_Kind t_Size t_Signed t_Big t_Names t_Nums t_Members t_Base t_Count) <|
                spec_l02Ok_l17 false t_Kind t_Size t_Signed t_Big t_Names t_Nums t_Members t_Base t_Count) <|
              spec_l02Ok_l17 false t_Kind t_Size t_Signed t_Big t_Names t_Nums t_Members t_Base t_Count) <|
            spec_l02Ok_l17 false t_Kind t_Size t_Signed t_Big t_Names t_Nums t_Members t_Base t_Count) <|
          spec_l02Ok_l17 false t_Kind t_Size t_Signed t_Big t_Names t_Nums t_Members t_Base t_Count) <|
        spec_l02Ok_l17 false t_Kind t_Size t_Signed t_Big t_Names t_Nums t_Members t_Base t_Count) <|
      spec_l02Ok_l17 fine t_Kind t_Size t_Signed t_Big t_Names t_Nums t_Members t_Base t_Count) := seml_eq (f := 96) (m := 0) (l := 15) (by kernel_rfl)
theorem spec_l02Ok_l17_eq (fine : Bool) (t_Kind : Int) (t_Size : Int) (t_Signed : Bool) (t_Big : Bool) (t_Names : List ByteArray) (t_Nums : List Int) (t_Members : List (ByteArray × Int × Ty_Type)) (t_Base : List Ty_Type) (t_Count : Int) :
    spec_l02Ok_l17 fine t_Kind t_Size t_Signed t_Big t_Names t_Nums t_Members t_Base t_Count = (
      sif (fine)
       (sbind (spec_l02Size t_Kind t_Size t_Signed t_Big t_Names t_Nums t_Members t_Base t_Count) fun r1 =>
        sif (decide (r1 ≤ 24))
         (sbind (spec_l02Depth t_Kind t_Size t_Signed t_Big t_Names t_Nums t_Members t_Base t_Count) fun r2 =>
          some (decide (r2 ≤ 3))) (some false)) (some false)) := seml_eq (f := 96) (m := 0) (l := 17) (by kernel_rfl)
theorem spec_l02Int_eq (t_Kind : Int) (t_Size : Int) (t_Signed : Bool) (t_Big : Bool) (t_Names : List ByteArray) (t_Nums : List Int) (t_Members : List (ByteArray × Int × Ty_Type)) (t_Base : List Ty_Type) (t_Count : Int) :
    spec_l02Int t_Kind t_Size t_Signed t_Big t_Names t_Nums t_Members t_Base t_Count = (
      sbind (spec_l00Has ([1, 2, 4, 8] : List Int) t_Size) fun r1 =>
      sif (!r1) (some false) <|
      sif ((t_Size == 8))
       (sif (!t_Signed) (some false) <|
        sif ((t_Size == 1))
         (sif (t_Big) (some false) <|
          sif (((t_Names.length : Int) == 0))
           (sif (((t_Nums.length : Int) == 0))
             (sif (((t_Members.length : Int) == 0)) (sif (((t_Base.length : Int) == 0)) (some (t_Count == 0)) (some false)) (some false)) (some false)) (some false)) <|
        sif (((t_Names.length : Int) == 0))
         (sif (((t_Nums.length : Int) == 0))
           (sif (((t_Members.length : Int) == 0)) (sif (((t_Base.length : Int) == 0)) (some (t_Count == 0)) (some false)) (some false)) (some false)) (some false)) <|
      sif ((t_Size == 1))
       (sif (t_Big) (some false) <|
        sif (((t_Names.length : Int) == 0))
         (sif (((t_Nums.length : Int) == 0))
           (sif (((t_Members.length : Int) == 0)) (sif (((t_Base.length : Int) == 0)) (some (t_Count == 0)) (some false)) (some false)) (some false)) (some false)) <|
      sif (((t_Names.length : Int) == 0))
       (sif (((t_Nums.length : Int) == 0))
         (sif (((t_Members.length : Int) == 0)) (sif (((t_Base.length : Int) == 0)) (some (t_Count == 0)) (some false)) (some false)) (some false)) (some false)) := sem_eq (f := 179) (m := 0) rfl (by kernel_rfl)
theorem spec_l00Has_eq (list : List Int) (n : Int) :
    spec_l00Has list n = (
      spec_l00Has_l2 list n 0) := sem_eq (f := 103) (m := 0) rfl (by kernel_rfl)
theorem spec_l00Has_l2_eq (list : List Int) (n : Int) (i : Int) :
    spec_l00Has_l2 list n i = (
      sif (decide (i < (list.length : Int)))
       (sbind (idx list i) fun x1 =>
        sif ((x1 == n)) (some true) (spec_l00Has_l2 list n (wi64 (i + 1)))) (some false)) := seml_eq (f := 103) (m := 0) (l := 2) (by kernel_rfl)
theorem spec_l00In_eq (n : Int) (low : Int) (high : Int) :
    spec_l00In n low high = (
      sif (decide (n ≥ low)) (some (decide (n ≤ high))) (some false)) := sem_eq (f := 118) (m := 0) rfl (by kernel_rfl)
theorem spec_l02Enum_eq (t_Kind : Int) (t_Size : Int) (t_Signed : Bool) (t_Big : Bool) (t_Names : List ByteArray) (t_Nums : List Int) (t_Members : List (ByteArray × Int × Ty_Type)) (t_Base : List Ty_Type) (t_Count : Int) :
    spec_l02Enum t_Kind t_Size t_Signed t_Big t_Names t_Nums t_Members t_Base t_Count = (
      sif ((t_Size != 0)) (some false) <|
      sbind (spec_l02Plain t_Kind t_Size t_Signed t_Big t_Names t_Nums t_Members t_Base t_Count) fun r1 =>
      sif (!r1) (some false) <|
      sif (decide ((t_Members.length : Int) > 0)) (some false) <|
      sif ((t_Count != 0)) (some false) <|
      sif (((t_Base.length : Int) != 1)) (some false) <|
      sbind (idx t_Base 0) fun x2 =>
      sif ((x2.f_Kind != 1)) (some false) <|
      sbind (idx t_Base 0) fun x3 =>
      sbind (spec_l02Int x3.f_Kind x3.f_Size x3.f_Signed x3.f_Big x3.f_Names x3.f_Nums x3.f_Members x3.f_Base x3.f_Count) fun r4 =>
      sif (!r4) (some false) <|
      sif (decide ((t_Names.length : Int) < 1)) (some false) <|
      sif (decide ((t_Names.length : Int) > 6)) (some false) <|
      sif (((t_Nums.length : Int) != (t_Names.length : Int))) (some false) <|
      sbind (idx t_Base 0) fun x5 =>
      sbind (spec_l02Range x5.f_Kind x5.f_Size x5.f_Signed x5.f_Big x5.f_Names x5.f_Nums x5.f_Members x5.f_Base x5.f_Count) fun r6 =>
      spec_l02Enum_l7 r6.1 r6.2 0 t_Kind t_Size t_Signed t_Big t_Names t_Nums t_Members t_Base t_Count) := sem_eq (f := 180) (m := 0) rfl (by kernel_rfl)
theorem spec_l02Enum_l7_eq (low : Int) (high : Int) (i : Int) (t_Kind : Int) (t_Size : Int) (t_Signed : Bool) (t_Big : Bool) (t_Names : List ByteArray) (t_Nums : List Int) (t_Members : List (ByteArray × Int × Ty_Type)) (t_Base : List Ty_Type) (t_Count : Int) :
    spec_l02Enum_l7 low high i t_Kind t_Size t_Signed t_Big t_Names t_Nums t_Members t_Base t_Count = (
      sif (decide (i < (t_Names.length : Int)))
       (sbind (idx t_Names i) fun x1 =>
        sbind (spec_IsName x1) fun r2 =>
        sif (!r2) (some false) <|
        sbind (idx t_Nums i) fun x3 =>
        sbind (spec_l00In x3 low high) fun r4 =>
        sif (!r4) (some false) <|
        sif (decide (i > 0))
         (sbind (idx t_Nums (wi64 (i - 1))) fun x5 =>
          sbind (idx t_Nums i) fun x6 =>
          sif (decide (x5 ≥ x6)) (some false) <|
          spec_l02Enum_l12 low high i 0 t_Kind t_Size t_Signed t_Big t_Names t_Nums t_Members t_Base t_Count) <|
        spec_l02Enum_l12 low high i 0 t_Kind t_Size t_Signed t_Big t_Names t_Nums t_Members t_Base t_Count) (some true)) := seml_eq (f := 180) (m := 0) (l := 7) (by kernel_rfl)
theorem spec_l02Enum_l12_eq (low : Int) (high : Int) (i : Int) (k : Int) (t_Kind : Int) (t_Size : Int) (t_Signed : Bool) (t_Big : Bool) (t_Names : List ByteArray) (t_Nums : List Int) (t_Members : List (ByteArray × Int × Ty_Type)) (t_Base : List Ty_Type) (t_Count : Int) :
    spec_l02Enum_l12 low high i k t_Kind t_Size t_Signed t_Big t_Names t_Nums t_Members t_Base t_Count = (
      sif (decide (k < i))
       (sbind (idx t_Names k) fun x1 =>
        sbind (idx t_Names i) fun x2 =>
        sif (seq x1 x2) (some false) <|
        spec_l02Enum_l12 low high i (wi64 (k + 1)) t_Kind t_Size t_Signed t_Big t_Names t_Nums t_Members t_Base t_Count) <|
      spec_l02Enum_l7 low high (wi64 (i + 1)) t_Kind t_Size t_Signed t_Big t_Names t_Nums t_Members t_Base t_Count) := seml_eq (f := 180) (m := 0) (l := 12) (by kernel_rfl)
theorem spec_l02Plain_eq (t_Kind : Int) (t_Size : Int) (t_Signed : Bool) (t_Big : Bool) (t_Names : List ByteArray) (t_Nums : List Int) (t_Members : List (ByteArray × Int × Ty_Type)) (t_Base : List Ty_Type) (t_Count : Int) :
    spec_l02Plain t_Kind t_Size t_Signed t_Big t_Names t_Nums t_Members t_Base t_Count = (
      sif (!t_Signed) (some !t_Big) (some false)) := sem_eq (f := 183) (m := 0) rfl (by kernel_rfl)
theorem spec_l02Range_eq (t_Kind : Int) (t_Size : Int) (t_Signed : Bool) (t_Big : Bool) (t_Names : List ByteArray) (t_Nums : List Int) (t_Members : List (ByteArray × Int × Ty_Type)) (t_Base : List Ty_Type) (t_Count : Int) :
    spec_l02Range t_Kind t_Size t_Signed t_Big t_Names t_Nums t_Members t_Base t_Count = (
      sif (!t_Signed)
       (sif (decide (wu64 (wi64 (8 * t_Size)) < 0)) (none) <|
        some (0, wi64 ((wi64 (1 * 2 ^ (min (wu64 (wi64 (8 * t_Size))).toNat 64))) - 1))) <|
      sif (decide (wu64 ((wu64 (wi64 (8 * t_Size))) - 1) < 0)) (none) <|
      some (wi64 ((wi64 (0 - (wi64 ((wi64 (1 * 2 ^ (min (wu64 ((wu64 (wi64 (8 * t_Size))) - 1)).toNat 64))) - 1)))) - 1), wi64 ((wi64 (1 * 2 ^ (min (wu64 ((wu64 (wi64 (8 * t_Size))) - 1)).toNat 64))) - 1))) := sem_eq (f := 247) (m := 0) rfl (by kernel_rfl)
theorem spec_IsName_eq (s : ByteArray) :
    spec_IsName s = (
      sif (((s.size : Int) == 0)) (some false) <|
      sif (decide ((s.size : Int) > 12)) (some false) <|
      sbind (bidx s 0) fun b1 =>
      sbind (spec_l01Letter b1) fun r2 =>
      sif (!r2) (some false) (spec_IsName_l4 s 1)) := sem_eq (f := 125) (m := 0) rfl (by kernel_rfl)
theorem spec_IsName_l4_eq (s : ByteArray) (i : Int) :
    spec_IsName_l4 s i = (
      sif (decide (i < (s.size : Int)))
       (sbind (bidx s i) fun b1 =>
        sbind (spec_l01Letter b1) fun r2 =>
        sif (!r2)
         (sbind (bidx s i) fun b3 =>
          sif (decide (b3 ≥ 48))
           (sbind (bidx s i) fun b4 =>
            sif (!(decide (b4 ≤ 57)))
             (sbind (bidx s i) fun b5 =>
              sif ((b5 != 95)) (some false) (spec_IsName_l4 s (wi64 (i + 1)))) (spec_IsName_l4 s (wi64 (i + 1)))) <|
          sbind (bidx s i) fun b4 =>
          sif ((b4 != 95)) (some false) (spec_IsName_l4 s (wi64 (i + 1)))) (spec_IsName_l4 s (wi64 (i + 1)))) (some true)) := seml_eq (f := 125) (m := 0) (l := 4) (by kernel_rfl)
theorem spec_l01Letter_eq (c : Int) :
    spec_l01Letter c = (
      sif (decide (c ≥ 65))
       (sif (decide (c ≤ 90)) (some true) <|
        sif (decide (c ≥ 97)) (some (decide (c ≤ 122))) (some false)) <|
      sif (decide (c ≥ 97)) (some (decide (c ≤ 122))) (some false)) := sem_eq (f := 200) (m := 0) rfl (by kernel_rfl)
theorem spec_l02Compound_eq (t_Kind : Int) (t_Size : Int) (t_Signed : Bool) (t_Big : Bool) (t_Names : List ByteArray) (t_Nums : List Int) (t_Members : List (ByteArray × Int × Ty_Type)) (t_Base : List Ty_Type) (t_Count : Int) :
    spec_l02Compound t_Kind t_Size t_Signed t_Big t_Names t_Nums t_Members t_Base t_Count = (
      sbind (spec_l00In t_Size 1 24) fun r1 =>
      sif (!r1) (some false) <|
      sbind (spec_l02Plain t_Kind t_Size t_Signed t_Big t_Names t_Nums t_Members t_Base t_Count) fun r2 =>
      sif (!r2) (some false) <|
      sif (decide ((t_Names.length : Int) > 0)) (some false) <|
      sif (decide ((t_Nums.length : Int) > 0)) (some false) <|
      sif (decide ((t_Base.length : Int) > 0)) (some false) <|
      sif ((t_Count != 0)) (some false) <|
      sif (decide ((t_Members.length : Int) < 1)) (some false) <|
      sif (decide ((t_Members.length : Int) > 4)) (some false) <|
      spec_l02Compound_l7 0 0 t_Kind t_Size t_Signed t_Big t_Names t_Nums t_Members t_Base t_Count) := sem_eq (f := 181) (m := 0) rfl (by kernel_rfl)
theorem spec_l02Compound_l7_eq (end_ : Int) (i : Int) (t_Kind : Int) (t_Size : Int) (t_Signed : Bool) (t_Big : Bool) (t_Names : List ByteArray) (t_Nums : List Int) (t_Members : List (ByteArray × Int × Ty_Type)) (t_Base : List Ty_Type) (t_Count : Int) :
    spec_l02Compound_l7 end_ i t_Kind t_Size t_Signed t_Big t_Names t_Nums t_Members t_Base t_Count = (
      sif (decide (i < (t_Members.length : Int)))
       (sbind (idx t_Members i) fun x1 =>
        sbind (spec_IsName x1.1) fun r2 =>
        sif (!r2) (some false) <|
        sif (decide (x1.2.1 < end_)) (some false) <|
        sif (decide (x1.2.1 > 24)) (some false) <|
        sbind (spec_l02Ok x1.2.2.f_Kind x1.2.2.f_Size x1.2.2.f_Signed x1.2.2.f_Big x1.2.2.f_Names x1.2.2.f_Nums x1.2.2.f_Members x1.2.2.f_Base x1.2.2.f_Count) fun r3 =>
        sif (!r3) (some false) <|
        spec_l02Compound_l13 i 0 t_Kind t_Size t_Signed t_Big t_Names t_Nums t_Members t_Base t_Count x1.1 x1.2.1 x1.2.2.f_Kind x1.2.2.f_Size x1.2.2.f_Signed x1.2.2.f_Big x1.2.2.f_Names x1.2.2.f_Nums x1.2.2.f_Members x1.2.2.f_Base x1.2.2.f_Count) (some (decide (end_ ≤ t_Size)))) := seml_eq (f := 181) (m := 0) (l := 7) (by kernel_rfl)
theorem spec_l02Compound_l13_eq (i : Int) (k : Int) (t_Kind : Int) (t_Size : Int) (t_Signed : Bool) (t_Big : Bool) (t_Names : List ByteArray) (t_Nums : List Int) (t_Members : List (ByteArray × Int × Ty_Type)) (t_Base : List Ty_Type) (t_Count : Int) (m_Name : ByteArray) (m_Offset : Int) (m_Type_Kind : Int) (m_Type_Size : Int) (m_Type_Signed : Bool) (m_Type_Big : Bool) (m_Type_Names : List ByteArray) (m_Type_Nums : List Int) (m_Type_Members : List (ByteArray × Int × Ty_Type)) (m_Type_Base : List Ty_Type) (m_Type_Count : Int) :
    spec_l02Compound_l13 i k t_Kind t_Size t_Signed t_Big t_Names t_Nums t_Members t_Base t_Count m_Name m_Offset m_Type_Kind m_Type_Size m_Type_Signed m_Type_Big m_Type_Names m_Type_Nums m_Type_Members m_Type_Base m_Type_Count = (
      sif (decide (k < i))
       (sbind (idx t_Members k) fun x1 =>
        sif (seq x1.1 m_Name) (some false) <|
        spec_l02Compound_l13 i (wi64 (k + 1)) t_Kind t_Size t_Signed t_Big t_Names t_Nums t_Members t_Base t_Count m_Name m_Offset m_Type_Kind m_Type_Size m_Type_Signed m_Type_Big m_Type_Names m_Type_Nums m_Type_Members m_Type_Base m_Type_Count) <|
      sbind (spec_l02Size m_Type_Kind m_Type_Size m_Type_Signed m_Type_Big m_Type_Names m_Type_Nums m_Type_Members m_Type_Base m_Type_Count) fun r1 =>
      spec_l02Compound_l7 (wi64 (m_Offset + r1)) (wi64 (i + 1)) t_Kind t_Size t_Signed t_Big t_Names t_Nums t_Members t_Base t_Count) := seml_eq (f := 181) (m := 0) (l := 13) (by kernel_rfl)
theorem spec_l02Size_eq (t_Kind : Int) (t_Size : Int) (t_Signed : Bool) (t_Big : Bool) (t_Names : List ByteArray) (t_Nums : List Int) (t_Members : List (ByteArray × Int × Ty_Type)) (t_Base : List Ty_Type) (t_Count : Int) :
    spec_l02Size t_Kind t_Size t_Signed t_Big t_Names t_Nums t_Members t_Base t_Count = (
      sif ((t_Kind == 3))
       (sbind (idx t_Base 0) fun x1 =>
        some x1.f_Size) <|
      sif ((t_Kind == 5))
       (sbind (idx t_Base 0) fun x1 =>
        sbind (spec_l02Size x1.f_Kind x1.f_Size x1.f_Signed x1.f_Big x1.f_Names x1.f_Nums x1.f_Members x1.f_Base x1.f_Count) fun r2 =>
        some (wi64 (t_Count * r2))) (some t_Size)) := sem_eq (f := 145) (m := 0) rfl (by kernel_rfl)
theorem spec_l02Array_eq (t_Kind : Int) (t_Size : Int) (t_Signed : Bool) (t_Big : Bool) (t_Names : List ByteArray) (t_Nums : List Int) (t_Members : List (ByteArray × Int × Ty_Type)) (t_Base : List Ty_Type) (t_Count : Int) :
    spec_l02Array t_Kind t_Size t_Signed t_Big t_Names t_Nums t_Members t_Base t_Count = (
      sif ((t_Size != 0)) (some false) <|
      sbind (spec_l02Plain t_Kind t_Size t_Signed t_Big t_Names t_Nums t_Members t_Base t_Count) fun r1 =>
      sif (!r1) (some false) <|
      sif (decide ((t_Names.length : Int) > 0)) (some false) <|
      sif (decide ((t_Nums.length : Int) > 0)) (some false) <|
      sif (decide ((t_Members.length : Int) > 0)) (some false) <|
      sif (((t_Base.length : Int) != 1)) (some false) <|
      sbind (spec_l00In t_Count 1 4) fun r2 =>
      sif (r2)
       (sbind (idx t_Base 0) fun x3 =>
        sbind (spec_l02Ok x3.f_Kind x3.f_Size x3.f_Signed x3.f_Big x3.f_Names x3.f_Nums x3.f_Members x3.f_Base x3.f_Count) fun r4 =>
        some r4) (some false)) := sem_eq (f := 182) (m := 0) rfl (by kernel_rfl)
theorem spec_l02Depth_eq (t_Kind : Int) (t_Size : Int) (t_Signed : Bool) (t_Big : Bool) (t_Names : List ByteArray) (t_Nums : List Int) (t_Members : List (ByteArray × Int × Ty_Type)) (t_Base : List Ty_Type) (t_Count : Int) :
    spec_l02Depth t_Kind t_Size t_Signed t_Big t_Names t_Nums t_Members t_Base t_Count = (
      sif ((t_Kind == 4)) (spec_l02Depth_l5 0 0 t_Kind t_Size t_Signed t_Big t_Names t_Nums t_Members t_Base t_Count) <|
      sif ((t_Kind == 5))
       (sbind (idx t_Base 0) fun x1 =>
        sbind (spec_l02Depth x1.f_Kind x1.f_Size x1.f_Signed x1.f_Big x1.f_Names x1.f_Nums x1.f_Members x1.f_Base x1.f_Count) fun r2 =>
        some (wi64 (r2 + 1))) (some 1)) := sem_eq (f := 184) (m := 0) rfl (by kernel_rfl)
theorem spec_l02Depth_l5_eq (deep : Int) (i : Int) (t_Kind : Int) (t_Size : Int) (t_Signed : Bool) (t_Big : Bool) (t_Names : List ByteArray) (t_Nums : List Int) (t_Members : List (ByteArray × Int × Ty_Type)) (t_Base : List Ty_Type) (t_Count : Int) :
    spec_l02Depth_l5 deep i t_Kind t_Size t_Signed t_Big t_Names t_Nums t_Members t_Base t_Count = (
      sif (decide (i < (t_Members.length : Int)))
       (sbind (idx t_Members i) fun x1 =>
        sbind (spec_l02Depth x1.2.2.f_Kind x1.2.2.f_Size x1.2.2.f_Signed x1.2.2.f_Big x1.2.2.f_Names x1.2.2.f_Nums x1.2.2.f_Members x1.2.2.f_Base x1.2.2.f_Count) fun r2 =>
        sbind (spec_l00Max deep r2) fun r3 =>
        spec_l02Depth_l5 r3 (wi64 (i + 1)) t_Kind t_Size t_Signed t_Big t_Names t_Nums t_Members t_Base t_Count) (some (wi64 (deep + 1)))) := seml_eq (f := 184) (m := 0) (l := 5) (by kernel_rfl)
theorem spec_l00Max_eq (a : Int) (b : Int) :
    spec_l00Max a b = (
      sif (decide (a > b)) (some a) (some b)) := sem_eq (f := 248) (m := 0) rfl (by kernel_rfl)
theorem spec_EncodeType_eq (t_Kind : Int) (t_Size : Int) (t_Signed : Bool) (t_Big : Bool) (t_Names : List ByteArray) (t_Nums : List Int) (t_Members : List (ByteArray × Int × Ty_Type)) (t_Base : List Ty_Type) (t_Count : Int) :
    spec_EncodeType t_Kind t_Size t_Signed t_Big t_Names t_Nums t_Members t_Base t_Count = (
      sbind (spec_l02Ok t_Kind t_Size t_Signed t_Big t_Names t_Nums t_Members t_Base t_Count) fun r1 =>
      sif (!r1) (some (bs [])) <|
      sbind (spec_l02Encode t_Kind t_Size t_Signed t_Big t_Names t_Nums t_Members t_Base t_Count) fun r2 =>
      some r2) := sem_eq (f := 97) (m := 0) rfl (by kernel_rfl)
theorem spec_l02Encode_eq (t_Kind : Int) (t_Size : Int) (t_Signed : Bool) (t_Big : Bool) (t_Names : List ByteArray) (t_Nums : List Int) (t_Members : List (ByteArray × Int × Ty_Type)) (t_Base : List Ty_Type) (t_Count : Int) :
    spec_l02Encode t_Kind t_Size t_Signed t_Big t_Names t_Nums t_Members t_Base t_Count = (
      sbind (spec_l02Byte t_Kind) fun r1 =>
      sif ((t_Kind == 1))
       (sif (t_Signed)
         (sif (t_Big)
           (sbind (spec_l02Byte t_Size) fun r2 =>
            sif (joins r1 r2)
             (sbind (spec_l02Byte 3) fun r3 =>
              sif (joins (r1 ++ r2) r3) (some ((r1 ++ r2) ++ r3)) (none)) (none)) <|
          sbind (spec_l02Byte t_Size) fun r2 =>
          sif (joins r1 r2)
           (sbind (spec_l02Byte 1) fun r3 =>
            sif (joins (r1 ++ r2) r3) (some ((r1 ++ r2) ++ r3)) (none)) (none)) <|
        sif (t_Big)
         (sbind (spec_l02Byte t_Size) fun r2 =>
          sif (joins r1 r2)
           (sbind (spec_l02Byte 2) fun r3 =>
            sif (joins (r1 ++ r2) r3) (some ((r1 ++ r2) ++ r3)) (none)) (none)) <|
        sbind (spec_l02Byte t_Size) fun r2 =>
        sif (joins r1 r2)
         (sbind (spec_l02Byte 0) fun r3 =>
          sif (joins (r1 ++ r2) r3) (some ((r1 ++ r2) ++ r3)) (none)) (none)) <|
      sif ((t_Kind == 2))
       (sbind (spec_l02Byte t_Size) fun r2 =>
        sif (joins r1 r2) (some (r1 ++ r2)) (none)) <|
      sif ((t_Kind == 3))
       (sbind (idx t_Base 0) fun x2 =>
        sbind (spec_l02Encode x2.f_Kind x2.f_Size x2.f_Signed x2.f_Big x2.f_Names x2.f_Nums x2.f_Members x2.f_Base x2.f_Count) fun r3 =>
        sbind (spec_l02Byte (t_Names.length : Int)) fun r4 =>
        sif (joins r3 r4)
         (sif (joins r1 (r3 ++ r4))
           (spec_l02Encode_l15 (r1 ++ (r3 ++ r4)) 0 t_Kind t_Size t_Signed t_Big t_Names t_Nums t_Members t_Base t_Count) (none)) (none)) <|
      sif ((t_Kind == 4))
       (sbind (spec_l02Byte t_Size) fun r2 =>
        sbind (spec_l02Byte (t_Members.length : Int)) fun r3 =>
        sif (joins r2 r3)
         (sif (joins r1 (r2 ++ r3))
           (spec_l02Encode_l21 (r1 ++ (r2 ++ r3)) 0 t_Kind t_Size t_Signed t_Big t_Names t_Nums t_Members t_Base t_Count) (none)) (none)) <|
      sif ((t_Kind == 5))
       (sbind (spec_l02Byte t_Count) fun r2 =>
        sbind (idx t_Base 0) fun x3 =>
        sbind (spec_l02Encode x3.f_Kind x3.f_Size x3.f_Signed x3.f_Big x3.f_Names x3.f_Nums x3.f_Members x3.f_Base x3.f_Count) fun r4 =>
        sif (joins r2 r4) (sif (joins r1 (r2 ++ r4)) (some (r1 ++ (r2 ++ r4))) (none)) (none)) (some r1)) := sem_eq (f := 185) (m := 0) rfl (by kernel_rfl)
theorem spec_l02Encode_l15_eq (out : ByteArray) (i : Int) (t_Kind : Int) (t_Size : Int) (t_Signed : Bool) (t_Big : Bool) (t_Names : List ByteArray) (t_Nums : List Int) (t_Members : List (ByteArray × Int × Ty_Type)) (t_Base : List Ty_Type) (t_Count : Int) :
    spec_l02Encode_l15 out i t_Kind t_Size t_Signed t_Big t_Names t_Nums t_Members t_Base t_Count = (
      sif (decide (i < (t_Names.length : Int)))
       (sbind (idx t_Names i) fun x1 =>
        sbind (spec_l02Byte (x1.size : Int)) fun r2 =>
        sbind (idx t_Names i) fun x3 =>
        sif (joins r2 x3)
         (sbind (idx t_Nums i) fun x4 =>
          sbind (spec_l02Put x4 8 false) fun r5 =>
          sif (joins (r2 ++ x3) r5)
           (sif (joins out ((r2 ++ x3) ++ r5))
             (spec_l02Encode_l15 (out ++ ((r2 ++ x3) ++ r5)) (wi64 (i + 1)) t_Kind t_Size t_Signed t_Big t_Names t_Nums t_Members t_Base t_Count) (none)) (none)) (none)) (some out)) := seml_eq (f := 185) (m := 0) (l := 15) (by kernel_rfl)
theorem spec_l02Encode_l21_eq (out : ByteArray) (i : Int) (t_Kind : Int) (t_Size : Int) (t_Signed : Bool) (t_Big : Bool) (t_Names : List ByteArray) (t_Nums : List Int) (t_Members : List (ByteArray × Int × Ty_Type)) (t_Base : List Ty_Type) (t_Count : Int) :
    spec_l02Encode_l21 out i t_Kind t_Size t_Signed t_Big t_Names t_Nums t_Members t_Base t_Count = (
      sif (decide (i < (t_Members.length : Int)))
       (sbind (idx t_Members i) fun x1 =>
        sbind (spec_l02Byte (x1.1.size : Int)) fun r2 =>
        sif (joins r2 x1.1)
         (sbind (spec_l02Byte x1.2.1) fun r3 =>
          sif (joins (r2 ++ x1.1) r3)
           (sbind (spec_l02Encode x1.2.2.f_Kind x1.2.2.f_Size x1.2.2.f_Signed x1.2.2.f_Big x1.2.2.f_Names x1.2.2.f_Nums x1.2.2.f_Members x1.2.2.f_Base x1.2.2.f_Count) fun r4 =>
            sif (joins ((r2 ++ x1.1) ++ r3) r4)
             (sif (joins out (((r2 ++ x1.1) ++ r3) ++ r4))
               (spec_l02Encode_l21 (out ++ (((r2 ++ x1.1) ++ r3) ++ r4)) (wi64 (i + 1)) t_Kind t_Size t_Signed t_Big t_Names t_Nums t_Members t_Base t_Count) (none)) (none)) (none)) (none)) (some out)) := seml_eq (f := 185) (m := 0) (l := 21) (by kernel_rfl)
theorem spec_l02Byte_eq (n : Int) :
    spec_l02Byte n = (
      some (toB [wu8 n])) := sem_eq (f := 224) (m := 0) rfl (by kernel_rfl)
theorem spec_l02Put_eq (n : Int) (size : Int) (big : Bool) :
    spec_l02Put n size big = (
      spec_l02Put_l3 n size big (bs []) 0) := sem_eq (f := 249) (m := 0) rfl (by kernel_rfl)
theorem spec_l02Put_l3_eq (n : Int) (size : Int) (big : Bool) (out : ByteArray) (k : Int) :
    spec_l02Put_l3 n size big out k = (
      sif (decide (k < size))
       (sif (decide (wu64 (wi64 (8 * k)) < 0)) (none) <|
        sbind (spec_l02Byte (bits .and .i64 (Int.fdiv n (2 ^ (min (wu64 (wi64 (8 * k))).toNat 64))) 255)) fun r1 =>
        sif (big) (sif (joins r1 out) (spec_l02Put_l3 n size big (r1 ++ out) (wi64 (k + 1))) (none)) <|
        sif (joins out r1) (spec_l02Put_l3 n size big (out ++ r1) (wi64 (k + 1))) (none)) (some out)) := seml_eq (f := 249) (m := 0) (l := 3) (by kernel_rfl)
theorem spec_l05Dims_eq (dims : List Int) :
    spec_l05Dims dims = (
      sif (decide ((dims.length : Int) > 3)) (some false) (spec_l05Dims_l5 dims 1 0)) := sem_eq (f := 98) (m := 0) rfl (by kernel_rfl)
theorem spec_l05Dims_l5_eq (dims : List Int) (n : Int) (i : Int) :
    spec_l05Dims_l5 dims n i = (
      sif (decide (i < (dims.length : Int)))
       (sbind (idx dims i) fun x1 =>
        sbind (spec_l00In x1 0 40) fun r2 =>
        sif (!r2) (some false) <|
        sbind (idx dims i) fun x3 =>
        spec_l05Dims_l5 dims (wi64 (n * x3)) (wi64 (i + 1))) (some (decide (n ≤ 600)))) := seml_eq (f := 98) (m := 0) (l := 5) (by kernel_rfl)
theorem spec_l03Ok_eq (t_Kind : Int) (t_Size : Int) (t_Signed : Bool) (t_Big : Bool) (t_Names : List ByteArray) (t_Nums : List Int) (t_Members : List (ByteArray × Int × Ty_Type)) (t_Base : List Ty_Type) (t_Count : Int) (b : ByteArray) :
    spec_l03Ok t_Kind t_Size t_Signed t_Big t_Names t_Nums t_Members t_Base t_Count b = (
      sbind (spec_l02Size t_Kind t_Size t_Signed t_Big t_Names t_Nums t_Members t_Base t_Count) fun r1 =>
      sif (((b.size : Int) != r1)) (some false) <|
      sif ((t_Kind == 2))
       (sbind (spec_l03Text b) fun r2 =>
        some r2) <|
      sif ((t_Kind == 3))
       (sbind (idx t_Base 0) fun x2 =>
        sbind (spec_l03Number x2.f_Kind x2.f_Size x2.f_Signed x2.f_Big x2.f_Names x2.f_Nums x2.f_Members x2.f_Base x2.f_Count b) fun r3 =>
        sbind (spec_l00Has t_Nums r3) fun r4 =>
        some r4) <|
      sif ((t_Kind == 4))
       (sbind (spec_l03Compound t_Kind t_Size t_Signed t_Big t_Names t_Nums t_Members t_Base t_Count b) fun r2 =>
        some r2) <|
      sif ((t_Kind == 5))
       (sbind (idx t_Base 0) fun x2 =>
        sbind (spec_l02Size x2.f_Kind x2.f_Size x2.f_Signed x2.f_Big x2.f_Names x2.f_Nums x2.f_Members x2.f_Base x2.f_Count) fun r3 =>
        spec_l03Ok_l13 b r3 0 t_Kind t_Size t_Signed t_Big t_Names t_Nums t_Members t_Base t_Count) (some true)) := sem_eq (f := 99) (m := 0) rfl (by kernel_rfl)
theorem spec_l03Ok_l13_eq (b : ByteArray) (size : Int) (k : Int) (t_Kind : Int) (t_Size : Int) (t_Signed : Bool) (t_Big : Bool) (t_Names : List ByteArray) (t_Nums : List Int) (t_Members : List (ByteArray × Int × Ty_Type)) (t_Base : List Ty_Type) (t_Count : Int) :
    spec_l03Ok_l13 b size k t_Kind t_Size t_Signed t_Big t_Names t_Nums t_Members t_Base t_Count = (
      sif (decide (k < t_Count))
       (sbind (idx t_Base 0) fun x1 =>
        sif (le3 0 (wi64 ((wi64 (k + 1)) * size)) (b.size : Int))
         (sif (le3 0 (wi64 (k * size)) (wi64 ((wi64 (k + 1)) * size)))
           (sbind (spec_l03Ok x1.f_Kind x1.f_Size x1.f_Signed x1.f_Big x1.f_Names x1.f_Nums x1.f_Members x1.f_Base x1.f_Count (b.extract ((wi64 (k * size)).toNat) ((wi64 ((wi64 (k + 1)) * size)).toNat))) fun r2 =>
            sif (!r2) (some false) <|
            spec_l03Ok_l13 b size (wi64 (k + 1)) t_Kind t_Size t_Signed t_Big t_Names t_Nums t_Members t_Base t_Count) (none)) (none)) (some true)) := seml_eq (f := 99) (m := 0) (l := 13) (by kernel_rfl)
theorem spec_l03Text_eq (b : ByteArray) :
    spec_l03Text b = (
      spec_l03Text_l3 b false 0) := sem_eq (f := 186) (m := 0) rfl (by kernel_rfl)
theorem spec_l03Text_l3_eq (b : ByteArray) (end_ : Bool) (i : Int) :
    spec_l03Text_l3 b end_ i = (
      sif (decide (i < (b.size : Int)))
       (sif (end_)
         (sbind (bidx b i) fun b1 =>
          sif ((b1 != 0)) (some false) <|
          sif (end_) (spec_l03Text_l3 b true (wi64 (i + 1))) <|
          sbind (bidx b i) fun b2 =>
          spec_l03Text_l3 b (b2 == 0) (wi64 (i + 1))) <|
        sif (end_) (spec_l03Text_l3 b true (wi64 (i + 1))) <|
        sbind (bidx b i) fun b1 =>
        spec_l03Text_l3 b (b1 == 0) (wi64 (i + 1))) (some true)) := seml_eq (f := 186) (m := 0) (l := 3) (by kernel_rfl)
theorem spec_l03Number_eq (t_Kind : Int) (t_Size : Int) (t_Signed : Bool) (t_Big : Bool) (t_Names : List ByteArray) (t_Nums : List Int) (t_Members : List (ByteArray × Int × Ty_Type)) (t_Base : List Ty_Type) (t_Count : Int) (b : ByteArray) :
    spec_l03Number t_Kind t_Size t_Signed t_Big t_Names t_Nums t_Members t_Base t_Count b = (
      spec_l03Number_l3 b 0 0 t_Kind t_Size t_Signed t_Big t_Names t_Nums t_Members t_Base t_Count) := sem_eq (f := 143) (m := 0) rfl (by kernel_rfl)
theorem spec_l03Number_l3_eq (b : ByteArray) (n : Int) (i : Int) (t_Kind : Int) (t_Size : Int) (t_Signed : Bool) (t_Big : Bool) (t_Names : List ByteArray) (t_Nums : List Int) (t_Members : List (ByteArray × Int × Ty_Type)) (t_Base : List Ty_Type) (t_Count : Int) :
    spec_l03Number_l3 b n i t_Kind t_Size t_Signed t_Big t_Names t_Nums t_Members t_Base t_Count = (
      sif (decide (i < (b.size : Int)))
       (sif (t_Big)
         (sbind (bidx b i) fun b1 =>
          spec_l03Number_l3 b (bits .or .i64 (wi64 (n * 2 ^ 8)) (wi64 b1)) (wi64 (i + 1)) t_Kind t_Size t_Signed t_Big t_Names t_Nums t_Members t_Base t_Count) <|
        sbind (bidx b (wi64 ((wi64 ((b.size : Int) - 1)) - i))) fun b1 =>
        spec_l03Number_l3 b (bits .or .i64 (wi64 (n * 2 ^ 8)) (wi64 b1)) (wi64 (i + 1)) t_Kind t_Size t_Signed t_Big t_Names t_Nums t_Members t_Base t_Count) <|
      sif (t_Signed)
       (sif (decide (t_Size < 8))
         (sif (decide (wu64 (wi64 ((wi64 (8 * t_Size)) - 1)) < 0)) (none) <|
          sif (decide (n ≥ wi64 (1 * 2 ^ (min (wu64 (wi64 ((wi64 (8 * t_Size)) - 1))).toNat 64))))
           (sif (decide (wu64 (wi64 (8 * t_Size)) < 0)) (none) <|
            some (wi64 (n - (wi64 (1 * 2 ^ (min (wu64 (wi64 (8 * t_Size))).toNat 64)))))) (some n)) (some n)) (some n)) := seml_eq (f := 143) (m := 0) (l := 3) (by kernel_rfl)
theorem spec_l03Compound_eq (t_Kind : Int) (t_Size : Int) (t_Signed : Bool) (t_Big : Bool) (t_Names : List ByteArray) (t_Nums : List Int) (t_Members : List (ByteArray × Int × Ty_Type)) (t_Base : List Ty_Type) (t_Count : Int) (b : ByteArray) :
    spec_l03Compound t_Kind t_Size t_Signed t_Big t_Names t_Nums t_Members t_Base t_Count b = (
      spec_l03Compound_l3 b 0 0 t_Kind t_Size t_Signed t_Big t_Names t_Nums t_Members t_Base t_Count) := sem_eq (f := 187) (m := 0) rfl (by kernel_rfl)
theorem spec_l03Compound_l3_eq (b : ByteArray) (at_ : Int) (i : Int) (t_Kind : Int) (t_Size : Int) (t_Signed : Bool) (t_Big : Bool) (t_Names : List ByteArray) (t_Nums : List Int) (t_Members : List (ByteArray × Int × Ty_Type)) (t_Base : List Ty_Type) (t_Count : Int) :
    spec_l03Compound_l3 b at_ i t_Kind t_Size t_Signed t_Big t_Names t_Nums t_Members t_Base t_Count = (
      sif (decide (i ≤ (t_Members.length : Int)))
       (sif (decide (i < (t_Members.length : Int)))
         (sbind (idx t_Members i) fun x1 =>
          spec_l03Compound_l8 b at_ i x1.2.1 t_Kind t_Size t_Signed t_Big t_Names t_Nums t_Members t_Base t_Count) <|
        spec_l03Compound_l8 b at_ i t_Size t_Kind t_Size t_Signed t_Big t_Names t_Nums t_Members t_Base t_Count) (some true)) := seml_eq (f := 187) (m := 0) (l := 3) (by kernel_rfl)
theorem spec_l03Compound_l8_eq (b : ByteArray) (at_ : Int) (i : Int) (to_ : Int) (t_Kind : Int) (t_Size : Int) (t_Signed : Bool) (t_Big : Bool) (t_Names : List ByteArray) (t_Nums : List Int) (t_Members : List (ByteArray × Int × Ty_Type)) (t_Base : List Ty_Type) (t_Count : Int) :
    spec_l03Compound_l8 b at_ i to_ t_Kind t_Size t_Signed t_Big t_Names t_Nums t_Members t_Base t_Count = (
      sif (decide (at_ < to_))
       (sbind (bidx b at_) fun b1 =>
        sif ((b1 != 0)) (some false) <|
        spec_l03Compound_l8 b (wi64 (at_ + 1)) i to_ t_Kind t_Size t_Signed t_Big t_Names t_Nums t_Members t_Base t_Count) <|
      sif (decide (i < (t_Members.length : Int)))
       (sbind (idx t_Members i) fun x1 =>
        sbind (spec_l02Size x1.2.2.f_Kind x1.2.2.f_Size x1.2.2.f_Signed x1.2.2.f_Big x1.2.2.f_Names x1.2.2.f_Nums x1.2.2.f_Members x1.2.2.f_Base x1.2.2.f_Count) fun r2 =>
        sbind (idx t_Members i) fun x3 =>
        sif (le3 0 (wi64 (at_ + r2)) (b.size : Int))
         (sif (le3 0 to_ (wi64 (at_ + r2)))
           (sbind (spec_l03Ok x3.2.2.f_Kind x3.2.2.f_Size x3.2.2.f_Signed x3.2.2.f_Big x3.2.2.f_Names x3.2.2.f_Nums x3.2.2.f_Members x3.2.2.f_Base x3.2.2.f_Count (b.extract to_.toNat ((wi64 (at_ + r2)).toNat))) fun r4 =>
            sif (!r4) (some false) <|
            spec_l03Compound_l3 b (wi64 (at_ + r2)) (wi64 (i + 1)) t_Kind t_Size t_Signed t_Big t_Names t_Nums t_Members t_Base t_Count) (none)) (none)) <|
      spec_l03Compound_l3 b at_ (wi64 (i + 1)) t_Kind t_Size t_Signed t_Big t_Names t_Nums t_Members t_Base t_Count) := seml_eq (f := 187) (m := 0) (l := 8) (by kernel_rfl)
theorem spec_l24Formed_eq (m_Path : ByteArray) (m_Source_Kind : Int) (m_Source_Start : List Int) (m_Source_Stride : List Int) (m_Source_Count : List Int) (m_Source_Block : List Int) (m_Source_Points : List (List Int)) (m_Target_Kind : Int) (m_Target_Start : List Int) (m_Target_Stride : List Int) (m_Target_Count : List Int) (m_Target_Block : List Int) (m_Target_Points : List (List Int)) :
    spec_l24Formed m_Path m_Source_Kind m_Source_Start m_Source_Stride m_Source_Count m_Source_Block m_Source_Points m_Target_Kind m_Target_Start m_Target_Stride m_Target_Count m_Target_Block m_Target_Points = (
      sbind (spec_ValidPath m_Path) fun r1 =>
      sif (!r1) (some false) <|
      sbind (spec_l06Formed m_Source_Kind m_Source_Start m_Source_Stride m_Source_Count m_Source_Block m_Source_Points) fun r2 =>
      sif (!r2) (some false) <|
      sbind (spec_l06Formed m_Target_Kind m_Target_Start m_Target_Stride m_Target_Count m_Target_Block m_Target_Points) fun r3 =>
      sif (!r3) (some false) <|
      sif ((m_Source_Kind == 2)) (some false) <|
      sif ((m_Target_Kind == 2)) (some false) <|
      sbind (spec_l24Encode m_Path m_Source_Kind m_Source_Start m_Source_Stride m_Source_Count m_Source_Block m_Source_Points m_Target_Kind m_Target_Start m_Target_Stride m_Target_Count m_Target_Block m_Target_Points) fun r4 =>
      some (decide ((r4.size : Int) ≤ 200))) := sem_eq (f := 100) (m := 0) rfl (by kernel_rfl)
theorem spec_ValidPath_eq (s : ByteArray) :
    spec_ValidPath s = (
      sbind (spec_l17Split s) fun r1 =>
      some r1.1) := sem_eq (f := 121) (m := 0) rfl (by kernel_rfl)
theorem spec_l17Split_eq (s : ByteArray) :
    spec_l17Split s = (
      sif (seq s (bs [47])) (some (true, ([] : List ByteArray))) <|
      sif (seq s (bs [])) (some (false, ([] : List ByteArray))) <|
      sbind (bidx s 0) fun b1 =>
      sif ((b1 != 47)) (some (false, ([] : List ByteArray))) (spec_l17Split_l8 s 1 1 ([] : List ByteArray))) := sem_eq (f := 198) (m := 0) rfl (by kernel_rfl)
theorem spec_l17Split_l8_eq (s : ByteArray) (from_ : Int) (i : Int) (out : List ByteArray) :
    spec_l17Split_l8 s from_ i out = (
      sif (decide (i ≤ (s.size : Int)))
       (sif (decide (i < (s.size : Int)))
         (sbind (bidx s i) fun b1 =>
          sif ((b1 != 47)) (spec_l17Split_l8 s from_ (wi64 (i + 1)) out) <|
          sif (le3 0 i (s.size : Int))
           (sif (le3 0 from_ i)
             (sbind (spec_IsName (s.extract from_.toNat i.toNat)) fun r2 =>
              sif (!r2) (some (false, ([] : List ByteArray))) <|
              sif (le3 0 i (s.size : Int))
               (sif (le3 0 from_ i)
                 (sif (room (out.length + 1) 16)
                   (spec_l17Split_l8 s (wi64 (i + 1)) (wi64 (i + 1)) (out ++ [s.extract from_.toNat i.toNat])) (none)) (none)) (none)) (none)) (none)) <|
        sif (le3 0 i (s.size : Int))
         (sif (le3 0 from_ i)
           (sbind (spec_IsName (s.extract from_.toNat i.toNat)) fun r1 =>
            sif (!r1) (some (false, ([] : List ByteArray))) <|
            sif (le3 0 i (s.size : Int))
             (sif (le3 0 from_ i)
               (sif (room (out.length + 1) 16)
                 (spec_l17Split_l8 s (wi64 (i + 1)) (wi64 (i + 1)) (out ++ [s.extract from_.toNat i.toNat])) (none)) (none)) (none)) (none)) (none)) <|
      sif (decide ((out.length : Int) > 6)) (some (false, ([] : List ByteArray))) (some (true, out))) := seml_eq (f := 198) (m := 0) (l := 8) (by kernel_rfl)
theorem spec_l06Formed_eq (s_Kind : Int) (s_Start : List Int) (s_Stride : List Int) (s_Count : List Int) (s_Block : List Int) (s_Points : List (List Int)) :
    spec_l06Formed s_Kind s_Start s_Stride s_Count s_Block s_Points = (
      sif ((s_Kind == 1))
       (sif ((s_Kind == 1))
         (sbind (spec_l06Plain s_Kind s_Start s_Stride s_Count s_Block s_Points) fun r1 =>
          sif (r1) (some ((s_Points.length : Int) == 0)) (some false)) <|
        sif ((s_Kind == 3))
         (sbind (spec_l06Slab s_Kind s_Start s_Stride s_Count s_Block s_Points) fun r1 =>
          some r1) <|
        sif ((s_Kind == 4))
         (sbind (spec_l06Plain s_Kind s_Start s_Stride s_Count s_Block s_Points) fun r1 =>
          sif (r1)
           (sbind (spec_l06Points s_Points) fun r2 =>
            some r2) (some false)) (some false)) <|
      sif ((s_Kind == 2))
       (sbind (spec_l06Plain s_Kind s_Start s_Stride s_Count s_Block s_Points) fun r1 =>
        sif (r1) (some ((s_Points.length : Int) == 0)) (some false)) <|
      sif ((s_Kind == 3))
       (sbind (spec_l06Slab s_Kind s_Start s_Stride s_Count s_Block s_Points) fun r1 =>
        some r1) <|
      sif ((s_Kind == 4))
       (sbind (spec_l06Plain s_Kind s_Start s_Stride s_Count s_Block s_Points) fun r1 =>
        sif (r1)
         (sbind (spec_l06Points s_Points) fun r2 =>
          some r2) (some false)) (some false)) := sem_eq (f := 188) (m := 0) rfl (by kernel_rfl)
theorem spec_l06Plain_eq (s_Kind : Int) (s_Start : List Int) (s_Stride : List Int) (s_Count : List Int) (s_Block : List Int) (s_Points : List (List Int)) :
    spec_l06Plain s_Kind s_Start s_Stride s_Count s_Block s_Points = (
      sif (((s_Start.length : Int) == 0))
       (sif (((s_Stride.length : Int) == 0)) (sif (((s_Count.length : Int) == 0)) (some ((s_Block.length : Int) == 0)) (some false)) (some false)) (some false)) := sem_eq (f := 250) (m := 0) rfl (by kernel_rfl)
theorem spec_l06Slab_eq (s_Kind : Int) (s_Start : List Int) (s_Stride : List Int) (s_Count : List Int) (s_Block : List Int) (s_Points : List (List Int)) :
    spec_l06Slab s_Kind s_Start s_Stride s_Count s_Block s_Points = (
      sif (decide ((s_Start.length : Int) > 3)) (some false) <|
      sif (((s_Stride.length : Int) != (s_Start.length : Int))) (some false) <|
      sif (((s_Count.length : Int) != (s_Start.length : Int))) (some false) <|
      sif (((s_Block.length : Int) != (s_Start.length : Int))) (some false) <|
      sif (decide ((s_Points.length : Int) > 0)) (some false) <|
      spec_l06Slab_l5 (s_Start.length : Int) 0 s_Kind s_Start s_Stride s_Count s_Block s_Points) := sem_eq (f := 251) (m := 0) rfl (by kernel_rfl)
theorem spec_l06Slab_l5_eq (n : Int) (i : Int) (s_Kind : Int) (s_Start : List Int) (s_Stride : List Int) (s_Count : List Int) (s_Block : List Int) (s_Points : List (List Int)) :
    spec_l06Slab_l5 n i s_Kind s_Start s_Stride s_Count s_Block s_Points = (
      sif (decide (i < n))
       (sbind (idx s_Start i) fun x1 =>
        sbind (spec_l00In x1 0 40) fun r2 =>
        sif (!r2) (some false) <|
        sbind (idx s_Count i) fun x3 =>
        sbind (spec_l00In x3 1 40) fun r4 =>
        sif (!r4) (some false) <|
        sbind (idx s_Block i) fun x5 =>
        sbind (spec_l00In x5 1 40) fun r6 =>
        sif (!r6) (some false) <|
        sbind (idx s_Stride i) fun x7 =>
        sbind (idx s_Block i) fun x8 =>
        sbind (spec_l00In x7 x8 40) fun r9 =>
        sif (!r9) (some false) <|
        sbind (spec_l06End s_Kind s_Start s_Stride s_Count s_Block s_Points i) fun r10 =>
        sif (decide (r10 > 40)) (some false) <|
        spec_l06Slab_l5 n (wi64 (i + 1)) s_Kind s_Start s_Stride s_Count s_Block s_Points) (some true)) := seml_eq (f := 251) (m := 0) (l := 5) (by kernel_rfl)
theorem spec_l06End_eq (s_Kind : Int) (s_Start : List Int) (s_Stride : List Int) (s_Count : List Int) (s_Block : List Int) (s_Points : List (List Int)) (i : Int) :
    spec_l06End s_Kind s_Start s_Stride s_Count s_Block s_Points i = (
      sbind (idx s_Start i) fun x1 =>
      sbind (idx s_Count i) fun x2 =>
      sbind (idx s_Stride i) fun x3 =>
      sbind (idx s_Block i) fun x4 =>
      some (wi64 ((wi64 (x1 + (wi64 ((wi64 (x2 - 1)) * x3)))) + x4))) := sem_eq (f := 190) (m := 0) rfl (by kernel_rfl)
theorem spec_l06Points_eq (list : List (List Int)) :
    spec_l06Points list = (
      sbind (spec_l00In (list.length : Int) 1 24) fun r1 =>
      sif (!r1) (some false) (spec_l06Points_l4 list 0)) := sem_eq (f := 252) (m := 0) rfl (by kernel_rfl)
theorem spec_l06Points_l4_eq (list : List (List Int)) (i : Int) :
    spec_l06Points_l4 list i = (
      sif (decide (i < (list.length : Int)))
       (sbind (idx list i) fun x1 =>
        sbind (idx list 0) fun x2 =>
        sif (((x1.length : Int) != (x2.length : Int))) (some false) <|
        sbind (idx list i) fun x3 =>
        sif (decide ((x3.length : Int) > 3)) (some false) (spec_l06Points_l9 list i 0)) (some true)) := seml_eq (f := 252) (m := 0) (l := 4) (by kernel_rfl)
theorem spec_l06Points_l9_eq (list : List (List Int)) (i : Int) (k : Int) :
    spec_l06Points_l9 list i k = (
      sbind (idx list i) fun x1 =>
      sif (decide (k < (x1.length : Int)))
       (sbind (idx list i) fun x2 =>
        sbind (idx x2 k) fun x3 =>
        sbind (spec_l00In x3 0 39) fun r4 =>
        sif (!r4) (some false) (spec_l06Points_l9 list i (wi64 (k + 1)))) (spec_l06Points_l4 list (wi64 (i + 1)))) := seml_eq (f := 252) (m := 0) (l := 9) (by kernel_rfl)
theorem spec_l24Encode_eq (m_Path : ByteArray) (m_Source_Kind : Int) (m_Source_Start : List Int) (m_Source_Stride : List Int) (m_Source_Count : List Int) (m_Source_Block : List Int) (m_Source_Points : List (List Int)) (m_Target_Kind : Int) (m_Target_Start : List Int) (m_Target_Stride : List Int) (m_Target_Count : List Int) (m_Target_Block : List Int) (m_Target_Points : List (List Int)) :
    spec_l24Encode m_Path m_Source_Kind m_Source_Start m_Source_Stride m_Source_Count m_Source_Block m_Source_Points m_Target_Kind m_Target_Start m_Target_Stride m_Target_Count m_Target_Block m_Target_Points = (
      sbind (spec_l24Bytes [(m_Path.size : Int)]) fun r1 =>
      sif (joins r1 m_Path)
       (sbind (spec_l24Selection m_Source_Kind m_Source_Start m_Source_Stride m_Source_Count m_Source_Block m_Source_Points) fun r2 =>
        sif (joins (r1 ++ m_Path) r2)
         (sbind (spec_l24Selection m_Target_Kind m_Target_Start m_Target_Stride m_Target_Count m_Target_Block m_Target_Points) fun r3 =>
          sif (joins ((r1 ++ m_Path) ++ r2) r3) (some (((r1 ++ m_Path) ++ r2) ++ r3)) (none)) (none)) (none)) := sem_eq (f := 189) (m := 0) rfl (by kernel_rfl)
theorem spec_l24Bytes_eq (list : List Int) :
    spec_l24Bytes list = (
      spec_l24Bytes_l3 list 0 ([] : List Int)) := sem_eq (f := 253) (m := 0) rfl (by kernel_rfl)
theorem spec_l24Bytes_l3_eq (list : List Int) (i : Int) (out : List Int) :
    spec_l24Bytes_l3 list i out = (
      sif (decide (i < (list.length : Int)))
       (sbind (idx list i) fun x1 =>
        sif (room (out.length + 1) 1) (spec_l24Bytes_l3 list (wi64 (i + 1)) (out ++ [wu8 x1])) (none)) (some (toB out))) := seml_eq (f := 253) (m := 0) (l := 3) (by kernel_rfl)
theorem spec_l24Selection_eq (s_Kind : Int) (s_Start : List Int) (s_Stride : List Int) (s_Count : List Int) (s_Block : List Int) (s_Points : List (List Int)) :
    spec_l24Selection s_Kind s_Start s_Stride s_Count s_Block s_Points = (
      sbind (spec_l24Bytes [s_Kind]) fun r1 =>
      sif ((s_Kind == 3))
       (sbind (spec_l24Bytes [(s_Start.length : Int)]) fun r2 =>
        sif (joins r1 r2)
         (sbind (spec_l24Bytes s_Start) fun r3 =>
          sbind (spec_l24Bytes s_Stride) fun r4 =>
          sif (joins r3 r4)
           (sbind (spec_l24Bytes s_Count) fun r5 =>
            sif (joins (r3 ++ r4) r5)
             (sbind (spec_l24Bytes s_Block) fun r6 =>
              sif (joins ((r3 ++ r4) ++ r5) r6)
               (sif (joins (r1 ++ r2) (((r3 ++ r4) ++ r5) ++ r6)) (some ((r1 ++ r2) ++ (((r3 ++ r4) ++ r5) ++ r6))) (none)) (none)) (none)) (none)) (none)) <|
      sif ((s_Kind == 4))
       (sbind (idx s_Points 0) fun x2 =>
        sbind (spec_l24Bytes [(s_Points.length : Int), (x2.length : Int)]) fun r3 =>
        sif (joins r1 r3) (spec_l24Selection_l9 (r1 ++ r3) 0 s_Kind s_Start s_Stride s_Count s_Block s_Points) (none)) (some r1)) := sem_eq (f := 254) (m := 0) rfl (by kernel_rfl)
theorem spec_l24Selection_l9_eq (out : ByteArray) (i : Int) (s_Kind : Int) (s_Start : List Int) (s_Stride : List Int) (s_Count : List Int) (s_Block : List Int) (s_Points : List (List Int)) :
    spec_l24Selection_l9 out i s_Kind s_Start s_Stride s_Count s_Block s_Points = (
      sif (decide (i < (s_Points.length : Int)))
       (sbind (idx s_Points i) fun x1 =>
        sbind (spec_l24Bytes x1) fun r2 =>
        sif (joins out r2)
         (spec_l24Selection_l9 (out ++ r2) (wi64 (i + 1)) s_Kind s_Start s_Stride s_Count s_Block s_Points) (none)) (some out)) := seml_eq (f := 254) (m := 0) (l := 9) (by kernel_rfl)
theorem spec_l06Valid_eq (dims : List Int) (s_Kind : Int) (s_Start : List Int) (s_Stride : List Int) (s_Count : List Int) (s_Block : List Int) (s_Points : List (List Int)) :
    spec_l06Valid dims s_Kind s_Start s_Stride s_Count s_Block s_Points = (
      sbind (spec_l05Dims dims) fun r1 =>
      sif (!r1) (some false) <|
      sbind (spec_l06Formed s_Kind s_Start s_Stride s_Count s_Block s_Points) fun r2 =>
      sif (!r2) (some false) <|
      sif ((s_Kind == 3))
       (sif (((s_Start.length : Int) != (dims.length : Int))) (some false) <|
        spec_l06Valid_l8 dims 0 s_Kind s_Start s_Stride s_Count s_Block s_Points) <|
      sif ((s_Kind == 4)) (spec_l06Valid_l14 dims 0 s_Kind s_Start s_Stride s_Count s_Block s_Points) (some true)) := sem_eq (f := 101) (m := 0) rfl (by kernel_rfl)
theorem spec_l06Valid_l8_eq (dims : List Int) (i : Int) (s_Kind : Int) (s_Start : List Int) (s_Stride : List Int) (s_Count : List Int) (s_Block : List Int) (s_Points : List (List Int)) :
    spec_l06Valid_l8 dims i s_Kind s_Start s_Stride s_Count s_Block s_Points = (
      sif (decide (i < (dims.length : Int)))
       (sbind (spec_l06End s_Kind s_Start s_Stride s_Count s_Block s_Points i) fun r1 =>
        sbind (idx dims i) fun x2 =>
        sif (decide (r1 > x2)) (some false) <|
        spec_l06Valid_l8 dims (wi64 (i + 1)) s_Kind s_Start s_Stride s_Count s_Block s_Points) (some true)) := seml_eq (f := 101) (m := 0) (l := 8) (by kernel_rfl)
theorem spec_l06Valid_l14_eq (dims : List Int) (i : Int) (s_Kind : Int) (s_Start : List Int) (s_Stride : List Int) (s_Count : List Int) (s_Block : List Int) (s_Points : List (List Int)) :
    spec_l06Valid_l14 dims i s_Kind s_Start s_Stride s_Count s_Block s_Points = (
      sif (decide (i < (s_Points.length : Int)))
       (sbind (idx s_Points i) fun x1 =>
        sbind (spec_l05Inside dims x1) fun r2 =>
        sif (!r2) (some false) <|
        spec_l06Valid_l14 dims (wi64 (i + 1)) s_Kind s_Start s_Stride s_Count s_Block s_Points) (some true)) := seml_eq (f := 101) (m := 0) (l := 14) (by kernel_rfl)
theorem spec_l05Inside_eq (dims : List Int) (at_ : List Int) :
    spec_l05Inside dims at_ = (
      sif (((at_.length : Int) != (dims.length : Int))) (some false) (spec_l05Inside_l4 dims at_ 0)) := sem_eq (f := 102) (m := 0) rfl (by kernel_rfl)
theorem spec_l05Inside_l4_eq (dims : List Int) (at_ : List Int) (i : Int) :
    spec_l05Inside_l4 dims at_ i = (
      sif (decide (i < (at_.length : Int)))
       (sbind (idx at_ i) fun x1 =>
        sbind (idx dims i) fun x2 =>
        sbind (spec_l00In x1 0 (wi64 (x2 - 1))) fun r3 =>
        sif (!r3) (some false) (spec_l05Inside_l4 dims at_ (wi64 (i + 1)))) (some true)) := seml_eq (f := 102) (m := 0) (l := 4) (by kernel_rfl)
theorem impl_ValidVirtual_eq (v_Type_Kind : Int) (v_Type_Size : Int) (v_Type_Signed : Bool) (v_Type_Big : Bool) (v_Type_Names : List ByteArray) (v_Type_Nums : List Int) (v_Type_Members : List (ByteArray × Int × Ty_Type)) (v_Type_Base : List Ty_Type) (v_Type_Count : Int) (v_Dims : List Int) (v_Fill : ByteArray) (v_Maps : List (ByteArray × Int × List Int × List Int × List Int × List Int × List (List Int) × Int × List Int × List Int × List Int × List Int × List (List Int))) :
    impl_ValidVirtual v_Type_Kind v_Type_Size v_Type_Signed v_Type_Big v_Type_Names v_Type_Nums v_Type_Members v_Type_Base v_Type_Count v_Dims v_Fill v_Maps = (
      sbind (impl_typeFits v_Type_Kind v_Type_Size v_Type_Signed v_Type_Big v_Type_Names v_Type_Nums v_Type_Members v_Type_Base v_Type_Count) fun r1 =>
      sif (!r1) (some false) <|
      sbind (impl_ValidDims v_Dims) fun r2 =>
      sif (!r2) (some false) <|
      sbind (impl_Type_isElement v_Type_Kind v_Type_Size v_Type_Signed v_Type_Big v_Type_Names v_Type_Nums v_Type_Members v_Type_Base v_Type_Count v_Fill) fun r3 =>
      sif (!r3) (some false) <|
      sif (decide ((v_Maps.length : Int) > 6)) (some false) <|
      sbind (slices_ContainsFunc_simpl_Mapping_impl_Mapping_d_ValidVirtual_1 v_Maps v_Type_Kind v_Type_Size v_Type_Signed v_Type_Big v_Type_Names v_Type_Nums v_Type_Members v_Type_Base v_Type_Count v_Dims v_Fill v_Maps) fun r4 =>
      some !r4) := sem_eq (f := 41) (m := 0) rfl (by kernel_rfl)
theorem impl_typeFits_eq (t_Kind : Int) (t_Size : Int) (t_Signed : Bool) (t_Big : Bool) (t_Names : List ByteArray) (t_Nums : List Int) (t_Members : List (ByteArray × Int × Ty_Type)) (t_Base : List Ty_Type) (t_Count : Int) :
    impl_typeFits t_Kind t_Size t_Signed t_Big t_Names t_Nums t_Members t_Base t_Count = (
      sbind (impl_ValidType t_Kind t_Size t_Signed t_Big t_Names t_Nums t_Members t_Base t_Count) fun r1 =>
      sif (r1)
       (sbind (impl_Type_encode t_Kind t_Size t_Signed t_Big t_Names t_Nums t_Members t_Base t_Count) fun r2 =>
        some (decide ((r2.size : Int) ≤ 200))) (some false)) := sem_eq (f := 88) (m := 0) rfl (by kernel_rfl)
theorem impl_ValidType_eq (t_Kind : Int) (t_Size : Int) (t_Signed : Bool) (t_Big : Bool) (t_Names : List ByteArray) (t_Nums : List Int) (t_Members : List (ByteArray × Int × Ty_Type)) (t_Base : List Ty_Type) (t_Count : Int) :
    impl_ValidType t_Kind t_Size t_Signed t_Big t_Names t_Nums t_Members t_Base t_Count = (
      sbind (impl_Type_valid t_Kind t_Size t_Signed t_Big t_Names t_Nums t_Members t_Base t_Count 3) fun r1 =>
      some r1) := sem_eq (f := 147) (m := 0) rfl (by kernel_rfl)
theorem impl_Type_valid_eq (t_Kind : Int) (t_Size : Int) (t_Signed : Bool) (t_Big : Bool) (t_Names : List ByteArray) (t_Nums : List Int) (t_Members : List (ByteArray × Int × Ty_Type)) (t_Base : List Ty_Type) (t_Count : Int) (depth : Int) :
    impl_Type_valid t_Kind t_Size t_Signed t_Big t_Names t_Nums t_Members t_Base t_Count depth = (
      sif (decide (depth < 1)) (some false) <|
      sbind (impl_Type_only t_Kind t_Size t_Signed t_Big t_Names t_Nums t_Members t_Base t_Count) fun r1 =>
      sbind (impl_SameType t_Kind t_Size t_Signed t_Big t_Names t_Nums t_Members t_Base t_Count r1.1 r1.2.1 r1.2.2.1 r1.2.2.2.1 r1.2.2.2.2.1 r1.2.2.2.2.2.1 r1.2.2.2.2.2.2.1 r1.2.2.2.2.2.2.2.1 r1.2.2.2.2.2.2.2.2) fun r2 =>
      sif (!r2) (some false) <|
      sif ((t_Kind == 1))
       (sbind (impl_Type_intOk t_Kind t_Size t_Signed t_Big t_Names t_Nums t_Members t_Base t_Count) fun r3 =>
        some r3) <|
      sif ((t_Kind == 2))
       (sbind (impl_within t_Size 1 16) fun r3 =>
        some r3) <|
      sif ((t_Kind == 3))
       (sbind (impl_Type_enumOk t_Kind t_Size t_Signed t_Big t_Names t_Nums t_Members t_Base t_Count) fun r3 =>
        some r3) <|
      sif ((t_Kind == 4))
       (sbind (impl_Type_compoundOk t_Kind t_Size t_Signed t_Big t_Names t_Nums t_Members t_Base t_Count (wi64 (depth - 1))) fun r3 =>
        some r3) <|
      sif ((t_Kind == 5))
       (sbind (impl_within t_Count 1 4) fun r3 =>
        sif (r3)
         (sif (((t_Base.length : Int) == 1))
           (sbind (idx t_Base 0) fun x4 =>
            sbind (impl_Type_valid x4.f_Kind x4.f_Size x4.f_Signed x4.f_Big x4.f_Names x4.f_Nums x4.f_Members x4.f_Base x4.f_Count (wi64 (depth - 1))) fun r5 =>
            sif (r5)
             (sbind (impl_Type_size t_Kind t_Size t_Signed t_Big t_Names t_Nums t_Members t_Base t_Count) fun r6 =>
              some (decide (r6 ≤ 24))) (some false)) (some false)) (some false)) <|
      sif ((t_Kind == 6)) (some (t_Size == 2)) (some false)) := sem_eq (f := 226) (m := 0) rfl (by kernel_rfl)
theorem impl_Type_only_eq (t_Kind : Int) (t_Size : Int) (t_Signed : Bool) (t_Big : Bool) (t_Names : List ByteArray) (t_Nums : List Int) (t_Members : List (ByteArray × Int × Ty_Type)) (t_Base : List Ty_Type) (t_Count : Int) :
    impl_Type_only t_Kind t_Size t_Signed t_Big t_Names t_Nums t_Members t_Base t_Count = (
      sif ((t_Kind == 1))
       (some (t_Kind, t_Size, t_Signed, t_Big, ([] : List ByteArray), ([] : List Int), ([] : List (ByteArray × Int × Ty_Type)), ([] : List Ty_Type), 0)) <|
      sif ((t_Kind == 2))
       (sif ((t_Kind == 2))
         (some (t_Kind, t_Size, false, false, ([] : List ByteArray), ([] : List Int), ([] : List (ByteArray × Int × Ty_Type)), ([] : List Ty_Type), 0)) <|
        sif ((t_Kind == 3))
         (some (t_Kind, 0, false, false, t_Names, t_Nums, ([] : List (ByteArray × Int × Ty_Type)), t_Base, 0)) <|
        sif ((t_Kind == 4))
         (some (t_Kind, t_Size, false, false, ([] : List ByteArray), ([] : List Int), t_Members, ([] : List Ty_Type), 0)) <|
        sif ((t_Kind == 5))
         (some (t_Kind, 0, false, false, ([] : List ByteArray), ([] : List Int), ([] : List (ByteArray × Int × Ty_Type)), t_Base, t_Count)) <|
        some (t_Kind, 0, false, false, ([] : List ByteArray), ([] : List Int), ([] : List (ByteArray × Int × Ty_Type)), ([] : List Ty_Type), 0)) <|
      sif ((t_Kind == 6))
       (some (t_Kind, t_Size, false, false, ([] : List ByteArray), ([] : List Int), ([] : List (ByteArray × Int × Ty_Type)), ([] : List Ty_Type), 0)) <|
      sif ((t_Kind == 3))
       (some (t_Kind, 0, false, false, t_Names, t_Nums, ([] : List (ByteArray × Int × Ty_Type)), t_Base, 0)) <|
      sif ((t_Kind == 4))
       (some (t_Kind, t_Size, false, false, ([] : List ByteArray), ([] : List Int), t_Members, ([] : List Ty_Type), 0)) <|
      sif ((t_Kind == 5))
       (some (t_Kind, 0, false, false, ([] : List ByteArray), ([] : List Int), ([] : List (ByteArray × Int × Ty_Type)), t_Base, t_Count)) <|
      some (t_Kind, 0, false, false, ([] : List ByteArray), ([] : List Int), ([] : List (ByteArray × Int × Ty_Type)), ([] : List Ty_Type), 0)) := sem_eq (f := 277) (m := 0) rfl (by kernel_rfl)
theorem impl_SameType_eq (a_Kind : Int) (a_Size : Int) (a_Signed : Bool) (a_Big : Bool) (a_Names : List ByteArray) (a_Nums : List Int) (a_Members : List (ByteArray × Int × Ty_Type)) (a_Base : List Ty_Type) (a_Count : Int) (b_Kind : Int) (b_Size : Int) (b_Signed : Bool) (b_Big : Bool) (b_Names : List ByteArray) (b_Nums : List Int) (b_Members : List (ByteArray × Int × Ty_Type)) (b_Base : List Ty_Type) (b_Count : Int) :
    impl_SameType a_Kind a_Size a_Signed a_Big a_Names a_Nums a_Members a_Base a_Count b_Kind b_Size b_Signed b_Big b_Names b_Nums b_Members b_Base b_Count = (
      sif ((a_Kind == b_Kind))
       (sif ((a_Size == b_Size))
         (sif ((a_Signed == b_Signed))
           (sif ((a_Big == b_Big))
             (sif ((a_Count == b_Count))
               (sbind (slices_Equal_sstring_string a_Names b_Names) fun r1 =>
                sif (r1)
                 (sbind (slices_Equal_sint64_int64 a_Nums b_Nums) fun r2 =>
                  sif (r2)
                   (sbind (slices_EqualFunc_simpl_Member_simpl_Member_impl_Member_impl_Member_dd_sameMember a_Members b_Members) fun r3 =>
                    sif (r3)
                     (sbind (slices_EqualFunc_simpl_Type_simpl_Type_impl_Type_impl_Type_dd_SameType a_Base b_Base) fun r4 =>
                      some r4) (some false)) (some false)) (some false)) (some false)) (some false)) (some false)) (some false)) (some false)) := sem_eq (f := 213) (m := 0) rfl (by kernel_rfl)
theorem slices_Equal_sstring_string_eq (s1 : List ByteArray) (s2 : List ByteArray) :
    slices_Equal_sstring_string s1 s2 = (
      sif (((s1.length : Int) != (s2.length : Int))) (some false) <|
      slices_Equal_sstring_string_l4 s1 s2 (s1.length : Int) 0) := sem_eq (f := 273) (m := 0) rfl (by kernel_rfl)
theorem slices_Equal_sstring_string_l4_eq (s1 : List ByteArray) (s2 : List ByteArray) (t12 : Int) (t13 : Int) :
    slices_Equal_sstring_string_l4 s1 s2 t12 t13 = (
      sif (decide (t13 < t12))
       (sbind (idx s1 t13) fun x1 =>
        sbind (idx s2 t13) fun x2 =>
        sif (!seq x1 x2) (some false) <|
        slices_Equal_sstring_string_l4 s1 s2 t12 (wi64 (t13 + 1))) (some true)) := seml_eq (f := 273) (m := 0) (l := 4) (by kernel_rfl)
theorem slices_Equal_sint64_int64_eq (s1 : List Int) (s2 : List Int) :
    slices_Equal_sint64_int64 s1 s2 = (
      sif (((s1.length : Int) != (s2.length : Int))) (some false) <|
      slices_Equal_sint64_int64_l4 s1 s2 (s1.length : Int) 0) := sem_eq (f := 135) (m := 0) rfl (by kernel_rfl)
theorem slices_Equal_sint64_int64_l4_eq (s1 : List Int) (s2 : List Int) (t12 : Int) (t13 : Int) :
    slices_Equal_sint64_int64_l4 s1 s2 t12 t13 = (
      sif (decide (t13 < t12))
       (sbind (idx s1 t13) fun x1 =>
        sbind (idx s2 t13) fun x2 =>
        sif ((x1 != x2)) (some false) <|
        slices_Equal_sint64_int64_l4 s1 s2 t12 (wi64 (t13 + 1))) (some true)) := seml_eq (f := 135) (m := 0) (l := 4) (by kernel_rfl)
theorem slices_EqualFunc_simpl_Member_simpl_Member_impl_Member_impl_Member_dd_sameMember_eq (s1 : List (ByteArray × Int × Ty_Type)) (s2 : List (ByteArray × Int × Ty_Type)) :
    slices_EqualFunc_simpl_Member_simpl_Member_impl_Member_impl_Member_dd_sameMember s1 s2 = (
      sif (((s1.length : Int) != (s2.length : Int))) (some false) <|
      slices_EqualFunc_simpl_Member_simpl_Member_impl_Member_impl_Member_dd_sameMember_l4 s2 s1 (s1.length : Int) 0) := sem_eq (f := 274) (m := 0) rfl (by kernel_rfl)
theorem slices_EqualFunc_simpl_Member_simpl_Member_impl_Member_impl_Member_dd_sameMember_l4_eq (s2 : List (ByteArray × Int × Ty_Type)) (t15 : List (ByteArray × Int × Ty_Type)) (t16 : Int) (t17 : Int) :
    slices_EqualFunc_simpl_Member_simpl_Member_impl_Member_impl_Member_dd_sameMember_l4 s2 t15 t16 t17 = (
      sif (decide (t17 < t16))
       (sbind (idx t15 t17) fun x1 =>
        sbind (idx s2 t17) fun x2 =>
        sbind (impl_sameMember x1.1 x1.2.1 x1.2.2.f_Kind x1.2.2.f_Size x1.2.2.f_Signed x1.2.2.f_Big x1.2.2.f_Names x1.2.2.f_Nums x1.2.2.f_Members x1.2.2.f_Base x1.2.2.f_Count x2.1 x2.2.1 x2.2.2.f_Kind x2.2.2.f_Size x2.2.2.f_Signed x2.2.2.f_Big x2.2.2.f_Names x2.2.2.f_Nums x2.2.2.f_Members x2.2.2.f_Base x2.2.2.f_Count) fun r3 =>
        sif (!r3) (some false) <|
        slices_EqualFunc_simpl_Member_simpl_Member_impl_Member_impl_Member_dd_sameMember_l4 s2 t15 t16 (wi64 (t17 + 1))) (some true)) := seml_eq (f := 274) (m := 0) (l := 4) (by kernel_rfl)
theorem impl_sameMember_eq (a_Name : ByteArray) (a_Offset : Int) (a_Type_Kind : Int) (a_Type_Size : Int) (a_Type_Signed : Bool) (a_Type_Big : Bool) (a_Type_Names : List ByteArray) (a_Type_Nums : List Int) (a_Type_Members : List (ByteArray × Int × Ty_Type)) (a_Type_Base : List Ty_Type) (a_Type_Count : Int) (b_Name : ByteArray) (b_Offset : Int) (b_Type_Kind : Int) (b_Type_Size : Int) (b_Type_Signed : Bool) (b_Type_Big : Bool) (b_Type_Names : List ByteArray) (b_Type_Nums : List Int) (b_Type_Members : List (ByteArray × Int × Ty_Type)) (b_Type_Base : List Ty_Type) (b_Type_Count : Int) :
    impl_sameMember a_Name a_Offset a_Type_Kind a_Type_Size a_Type_Signed a_Type_Big a_Type_Names a_Type_Nums a_Type_Members a_Type_Base a_Type_Count b_Name b_Offset b_Type_Kind b_Type_Size b_Type_Signed b_Type_Big b_Type_Names b_Type_Nums b_Type_Members b_Type_Base b_Type_Count = (
      sif (seq a_Name b_Name)
       (sif ((a_Offset == b_Offset))
         (sbind (impl_SameType a_Type_Kind a_Type_Size a_Type_Signed a_Type_Big a_Type_Names a_Type_Nums a_Type_Members a_Type_Base a_Type_Count b_Type_Kind b_Type_Size b_Type_Signed b_Type_Big b_Type_Names b_Type_Nums b_Type_Members b_Type_Base b_Type_Count) fun r1 =>
          some r1) (some false)) (some false)) := sem_eq (f := 275) (m := 0) rfl (by kernel_rfl)
theorem slices_EqualFunc_simpl_Type_simpl_Type_impl_Type_impl_Type_dd_SameType_eq (s1 : List Ty_Type) (s2 : List Ty_Type) :
    slices_EqualFunc_simpl_Type_simpl_Type_impl_Type_impl_Type_dd_SameType s1 s2 = (
      sif (((s1.length : Int) != (s2.length : Int))) (some false) <|
      slices_EqualFunc_simpl_Type_simpl_Type_impl_Type_impl_Type_dd_SameType_l4 s2 s1 (s1.length : Int) 0) := sem_eq (f := 276) (m := 0) rfl (by kernel_rfl)
theorem slices_EqualFunc_simpl_Type_simpl_Type_impl_Type_impl_Type_dd_SameType_l4_eq (s2 : List Ty_Type) (t15 : List Ty_Type) (t16 : Int) (t17 : Int) :
    slices_EqualFunc_simpl_Type_simpl_Type_impl_Type_impl_Type_dd_SameType_l4 s2 t15 t16 t17 = (
      sif (decide (t17 < t16))
       (sbind (idx t15 t17) fun x1 =>
        sbind (idx s2 t17) fun x2 =>
        sbind (impl_SameType x1.f_Kind x1.f_Size x1.f_Signed x1.f_Big x1.f_Names x1.f_Nums x1.f_Members x1.f_Base x1.f_Count x2.f_Kind x2.f_Size x2.f_Signed x2.f_Big x2.f_Names x2.f_Nums x2.f_Members x2.f_Base x2.f_Count) fun r3 =>
        sif (!r3) (some false) <|
        slices_EqualFunc_simpl_Type_simpl_Type_impl_Type_impl_Type_dd_SameType_l4 s2 t15 t16 (wi64 (t17 + 1))) (some true)) := seml_eq (f := 276) (m := 0) (l := 4) (by kernel_rfl)
theorem impl_Type_intOk_eq (t_Kind : Int) (t_Size : Int) (t_Signed : Bool) (t_Big : Bool) (t_Names : List ByteArray) (t_Nums : List Int) (t_Members : List (ByteArray × Int × Ty_Type)) (t_Base : List Ty_Type) (t_Count : Int) :
    impl_Type_intOk t_Kind t_Size t_Signed t_Big t_Names t_Nums t_Members t_Base t_Count = (
      sbind (slices_Contains_sint64_int64 ([1, 2, 4, 8] : List Int) t_Size) fun r1 =>
      sif (r1)
       (sif (t_Signed) (sif (t_Big) (some (!(t_Size == 1))) (some true)) <|
        sif (decide (t_Size < 8)) (sif (t_Big) (some (!(t_Size == 1))) (some true)) (some false)) (some false)) := sem_eq (f := 278) (m := 0) rfl (by kernel_rfl)
theorem slices_Contains_sint64_int64_eq (s : List Int) (v : Int) :
    slices_Contains_sint64_int64 s v = (
      sbind (slices_Index_sint64_int64 s v) fun r1 =>
      some (decide (r1 ≥ 0))) := sem_eq (f := 50) (m := 0) rfl (by kernel_rfl)
theorem slices_Index_sint64_int64_eq (s : List Int) (v : Int) :
    slices_Index_sint64_int64 s v = (
      slices_Index_sint64_int64_l2 s v (s.length : Int) 0) := sem_eq (f := 108) (m := 0) rfl (by kernel_rfl)
theorem slices_Index_sint64_int64_l2_eq (s : List Int) (v : Int) (t7 : Int) (t8 : Int) :
    slices_Index_sint64_int64_l2 s v t7 t8 = (
      sif (decide (t8 < t7))
       (sbind (idx s t8) fun x1 =>
        sif ((v == x1)) (some t8) <|
        slices_Index_sint64_int64_l2 s v t7 (wi64 (t8 + 1))) (some (-1))) := seml_eq (f := 108) (m := 0) (l := 2) (by kernel_rfl)
theorem impl_within_eq (n : Int) (low : Int) (high : Int) :
    impl_within n low high = (
      sif (decide (n ≥ low)) (some (decide (n ≤ high))) (some false)) := sem_eq (f := 106) (m := 0) rfl (by kernel_rfl)
theorem impl_Type_enumOk_eq (t_Kind : Int) (t_Size : Int) (t_Signed : Bool) (t_Big : Bool) (t_Names : List ByteArray) (t_Nums : List Int) (t_Members : List (ByteArray × Int × Ty_Type)) (t_Base : List Ty_Type) (t_Count : Int) :
    impl_Type_enumOk t_Kind t_Size t_Signed t_Big t_Names t_Nums t_Members t_Base t_Count = (
      sif (((t_Base.length : Int) != 1)) (some false) <|
      sbind (idx t_Base 0) fun x1 =>
      sif ((x1.f_Kind != 1)) (some false) <|
      sbind (idx t_Base 0) fun x2 =>
      sbind (impl_Type_valid x2.f_Kind x2.f_Size x2.f_Signed x2.f_Big x2.f_Names x2.f_Nums x2.f_Members x2.f_Base x2.f_Count 1) fun r3 =>
      sif (!r3) (some false) <|
      sbind (idx t_Base 0) fun x4 =>
      sbind (impl_Type_intRange x4.f_Kind x4.f_Size x4.f_Signed x4.f_Big x4.f_Names x4.f_Nums x4.f_Members x4.f_Base x4.f_Count) fun r5 =>
      impl_Type_enumOk_l5 r5.1 r5.2 t_Nums (t_Nums.length : Int) 0 t_Kind t_Size t_Signed t_Big t_Names t_Nums t_Members t_Base t_Count) := sem_eq (f := 279) (m := 0) rfl (by kernel_rfl)
theorem impl_Type_enumOk_l5_eq (low : Int) (high : Int) (t36 : List Int) (t37 : Int) (t38 : Int) (t_Kind : Int) (t_Size : Int) (t_Signed : Bool) (t_Big : Bool) (t_Names : List ByteArray) (t_Nums : List Int) (t_Members : List (ByteArray × Int × Ty_Type)) (t_Base : List Ty_Type) (t_Count : Int) :
    impl_Type_enumOk_l5 low high t36 t37 t38 t_Kind t_Size t_Signed t_Big t_Names t_Nums t_Members t_Base t_Count = (
      sif (decide (t38 < t37))
       (sbind (idx t36 t38) fun x1 =>
        sbind (impl_within x1 low high) fun r2 =>
        sif (!r2) (some false) <|
        sif (decide (t38 > 0))
         (sbind (idx t_Nums (wi64 (t38 - 1))) fun x3 =>
          sif (decide (x1 ≤ x3)) (some false) <|
          impl_Type_enumOk_l5 low high t36 t37 (wi64 (t38 + 1)) t_Kind t_Size t_Signed t_Big t_Names t_Nums t_Members t_Base t_Count) <|
        impl_Type_enumOk_l5 low high t36 t37 (wi64 (t38 + 1)) t_Kind t_Size t_Signed t_Big t_Names t_Nums t_Members t_Base t_Count) <|
      sbind (impl_within (t_Nums.length : Int) 1 6) fun r1 =>
      sif (r1)
       (sif (((t_Names.length : Int) == (t_Nums.length : Int)))
         (sbind (impl_differentNames t_Names) fun r2 =>
          some r2) (some false)) (some false)) := seml_eq (f := 279) (m := 0) (l := 5) (by kernel_rfl)
theorem impl_Type_intRange_eq (t_Kind : Int) (t_Size : Int) (t_Signed : Bool) (t_Big : Bool) (t_Names : List ByteArray) (t_Nums : List Int) (t_Members : List (ByteArray × Int × Ty_Type)) (t_Base : List Ty_Type) (t_Count : Int) :
    impl_Type_intRange t_Kind t_Size t_Signed t_Big t_Names t_Nums t_Members t_Base t_Count = (
      sif (t_Signed)
       (sif (decide (wi64 ((wi64 (8 * t_Size)) - 1) < 0)) (none) <|
        sif (decide (wi64 ((wi64 (8 * t_Size)) - 1) < 0)) (none) <|
        some (wi64 ((-1) * 2 ^ (min (wi64 ((wi64 (8 * t_Size)) - 1)).toNat 64)), wi64 ((wi64 (1 * 2 ^ (min (wi64 ((wi64 (8 * t_Size)) - 1)).toNat 64))) - 1))) <|
      sif (decide (wi64 (8 * t_Size) < 0)) (none) <|
      some (0, wi64 ((wi64 (1 * 2 ^ (min (wi64 (8 * t_Size)).toNat 64))) - 1))) := sem_eq (f := 298) (m := 0) rfl (by kernel_rfl)
theorem impl_differentNames_eq (names : List ByteArray) :
    impl_differentNames names = (
      impl_differentNames_l2 names names (names.length : Int) 0) := sem_eq (f := 299) (m := 0) rfl (by kernel_rfl)
theorem impl_differentNames_l2_eq (names : List ByteArray) (t5 : List ByteArray) (t6 : Int) (t7 : Int) :
    impl_differentNames_l2 names t5 t6 t7 = (
      sif (decide (t7 < t6))
       (sbind (idx t5 t7) fun x1 =>
        sbind (impl_IsName x1) fun r2 =>
        sif (!r2) (some false) <|
        sif (le3 0 t7 (names.length : Int))
         (sbind (slices_Contains_sstring_string ((names.take t7.toNat).drop 0) x1) fun r3 =>
          sif (r3) (some false) <|
          impl_differentNames_l2 names t5 t6 (wi64 (t7 + 1))) (none)) (some true)) := seml_eq (f := 299) (m := 0) (l := 2) (by kernel_rfl)
theorem impl_IsName_eq (s : ByteArray) :
    impl_IsName s = (
      impl_IsName_l2 s (s.size : Int) 0) := sem_eq (f := 130) (m := 0) rfl (by kernel_rfl)
theorem impl_IsName_l2_eq (s : ByteArray) (t7 : Int) (t8 : Int) :
    impl_IsName_l2 s t7 t8 = (
      sif (decide (t8 < t7))
       (sbind (bidx s t8) fun b1 =>
        sif (decide (b1 ≥ 65))
         (sif (decide (b1 ≤ 90)) (impl_IsName_l6 s t8 b1 true t7 t8) <|
          sif (decide (b1 ≥ 97)) (impl_IsName_l6 s t8 b1 (decide (b1 ≤ 122)) t7 t8) (impl_IsName_l6 s t8 b1 false t7 t8)) <|
        sif (decide (b1 ≥ 97)) (impl_IsName_l6 s t8 b1 (decide (b1 ≤ 122)) t7 t8) (impl_IsName_l6 s t8 b1 false t7 t8)) <|
      sif (decide ((s.size : Int) ≥ 1)) (some (decide ((s.size : Int) ≤ 12))) (some false)) := seml_eq (f := 130) (m := 0) (l := 2) (by kernel_rfl)
theorem impl_IsName_l6_eq (s : ByteArray) (i : Int) (c : Int) (letter : Bool) (t7 : Int) (t8 : Int) :
    impl_IsName_l6 s i c letter t7 t8 = (
      sif (!letter)
       (sif ((i == 0)) (some false) <|
        sif (decide (c < 48)) (sif ((c != 95)) (some false) (impl_IsName_l2 s t7 (wi64 (t8 + 1)))) <|
        sif (decide (c > 57)) (sif ((c != 95)) (some false) (impl_IsName_l2 s t7 (wi64 (t8 + 1)))) (impl_IsName_l2 s t7 (wi64 (t8 + 1)))) (impl_IsName_l2 s t7 (wi64 (t8 + 1)))) := seml_eq (f := 130) (m := 0) (l := 6) (by kernel_rfl)
theorem slices_Contains_sstring_string_eq (s : List ByteArray) (v : ByteArray) :
    slices_Contains_sstring_string s v = (
      sbind (slices_Index_sstring_string s v) fun r1 =>
      some (decide (r1 ≥ 0))) := sem_eq (f := 112) (m := 0) rfl (by kernel_rfl)
theorem slices_Index_sstring_string_eq (s : List ByteArray) (v : ByteArray) :
    slices_Index_sstring_string s v = (
      slices_Index_sstring_string_l2 s v (s.length : Int) 0) := sem_eq (f := 192) (m := 0) rfl (by kernel_rfl)
theorem slices_Index_sstring_string_l2_eq (s : List ByteArray) (v : ByteArray) (t7 : Int) (t8 : Int) :
    slices_Index_sstring_string_l2 s v t7 t8 = (
      sif (decide (t8 < t7))
       (sbind (idx s t8) fun x1 =>
        sif (seq v x1) (some t8) <|
        slices_Index_sstring_string_l2 s v t7 (wi64 (t8 + 1))) (some (-1))) := seml_eq (f := 192) (m := 0) (l := 2) (by kernel_rfl)
theorem impl_Type_compoundOk_eq (t_Kind : Int) (t_Size : Int) (t_Signed : Bool) (t_Big : Bool) (t_Names : List ByteArray) (t_Nums : List Int) (t_Members : List (ByteArray × Int × Ty_Type)) (t_Base : List Ty_Type) (t_Count : Int) (depth : Int) :
    impl_Type_compoundOk t_Kind t_Size t_Signed t_Big t_Names t_Nums t_Members t_Base t_Count depth = (
      sbind (impl_within t_Size 1 24) fun r1 =>
      sif (!r1) (some false) <|
      sbind (impl_within (t_Members.length : Int) 1 4) fun r2 =>
      sif (!r2) (some false) <|
      impl_Type_compoundOk_l6 depth 0 t_Members (t_Members.length : Int) 0 t_Kind t_Size t_Signed t_Big t_Names t_Nums t_Members t_Base t_Count ([] : List ByteArray)) := sem_eq (f := 280) (m := 0) rfl (by kernel_rfl)
theorem impl_Type_compoundOk_l6_eq (depth : Int) (end_ : Int) (t21 : List (ByteArray × Int × Ty_Type)) (t22 : Int) (t23 : Int) (t_Kind : Int) (t_Size : Int) (t_Signed : Bool) (t_Big : Bool) (t_Names : List ByteArray) (t_Nums : List Int) (t_Members : List (ByteArray × Int × Ty_Type)) (t_Base : List Ty_Type) (t_Count : Int) (names : List ByteArray) :
    impl_Type_compoundOk_l6 depth end_ t21 t22 t23 t_Kind t_Size t_Signed t_Big t_Names t_Nums t_Members t_Base t_Count names = (
      sif (decide (t23 < t22))
       (sbind (idx t21 t23) fun x1 =>
        sbind (impl_Type_valid x1.2.2.f_Kind x1.2.2.f_Size x1.2.2.f_Signed x1.2.2.f_Big x1.2.2.f_Names x1.2.2.f_Nums x1.2.2.f_Members x1.2.2.f_Base x1.2.2.f_Count depth) fun r2 =>
        sif (!r2) (some false) <|
        sif (decide (x1.2.1 < end_)) (some false) <|
        sif (decide (x1.2.1 > 24)) (some false) <|
        sbind (impl_Type_size x1.2.2.f_Kind x1.2.2.f_Size x1.2.2.f_Signed x1.2.2.f_Big x1.2.2.f_Names x1.2.2.f_Nums x1.2.2.f_Members x1.2.2.f_Base x1.2.2.f_Count) fun r3 =>
        sif (room (names.length + 1) 16)
         (impl_Type_compoundOk_l6 depth (wi64 (x1.2.1 + r3)) t21 t22 (wi64 (t23 + 1)) t_Kind t_Size t_Signed t_Big t_Names t_Nums t_Members t_Base t_Count (names ++ [x1.1])) (none)) <|
      sif (decide (end_ ≤ t_Size))
       (sbind (impl_differentNames names) fun r1 =>
        some r1) (some false)) := seml_eq (f := 280) (m := 0) (l := 6) (by kernel_rfl)
theorem impl_Type_size_eq (t_Kind : Int) (t_Size : Int) (t_Signed : Bool) (t_Big : Bool) (t_Names : List ByteArray) (t_Nums : List Int) (t_Members : List (ByteArray × Int × Ty_Type)) (t_Base : List Ty_Type) (t_Count : Int) :
    impl_Type_size t_Kind t_Size t_Signed t_Big t_Names t_Nums t_Members t_Base t_Count = (
      sif ((t_Kind == 3))
       (sbind (idx t_Base 0) fun x1 =>
        sbind (impl_Type_size x1.f_Kind x1.f_Size x1.f_Signed x1.f_Big x1.f_Names x1.f_Nums x1.f_Members x1.f_Base x1.f_Count) fun r2 =>
        some r2) <|
      sif ((t_Kind == 5))
       (sbind (idx t_Base 0) fun x1 =>
        sbind (impl_Type_size x1.f_Kind x1.f_Size x1.f_Signed x1.f_Big x1.f_Names x1.f_Nums x1.f_Members x1.f_Base x1.f_Count) fun r2 =>
        some (wi64 (t_Count * r2))) (some t_Size)) := sem_eq (f := 169) (m := 0) rfl (by kernel_rfl)
theorem impl_Type_encode_eq (t_Kind : Int) (t_Size : Int) (t_Signed : Bool) (t_Big : Bool) (t_Names : List ByteArray) (t_Nums : List Int) (t_Members : List (ByteArray × Int × Ty_Type)) (t_Base : List Ty_Type) (t_Count : Int) :
    impl_Type_encode t_Kind t_Size t_Signed t_Big t_Names t_Nums t_Members t_Base t_Count = (
      sbind (impl_putBytes t_Kind 1) fun r1 =>
      sif ((t_Kind == 1))
       (sbind (impl_putBytes t_Size 1) fun r2 =>
        sif (joins r1 r2)
         (sbind (impl_truth t_Signed) fun r3 =>
          sbind (impl_truth t_Big) fun r4 =>
          sbind (impl_putBytes (wi64 (r3 + (wi64 (2 * r4)))) 1) fun r5 =>
          sif (joins (r1 ++ r2) r5) (some ((r1 ++ r2) ++ r5)) (none)) (none)) <|
      sif ((t_Kind == 2))
       (sbind (impl_putBytes t_Size 1) fun r2 =>
        sif (joins r1 r2) (some (r1 ++ r2)) (none)) <|
      sif ((t_Kind == 3))
       (sbind (idx t_Base 0) fun x2 =>
        sbind (impl_Type_encode x2.f_Kind x2.f_Size x2.f_Signed x2.f_Big x2.f_Names x2.f_Nums x2.f_Members x2.f_Base x2.f_Count) fun r3 =>
        sbind (impl_putBytes (t_Names.length : Int) 1) fun r4 =>
        sif (joins r3 r4)
         (sif (joins r1 (r3 ++ r4))
           (impl_Type_encode_l10 (r1 ++ (r3 ++ r4)) t_Names (t_Names.length : Int) 0 t_Kind t_Size t_Signed t_Big t_Names t_Nums t_Members t_Base t_Count) (none)) (none)) <|
      sif ((t_Kind == 4))
       (sbind (impl_putBytes t_Size 1) fun r2 =>
        sbind (impl_putBytes (t_Members.length : Int) 1) fun r3 =>
        sif (joins r2 r3)
         (sif (joins r1 (r2 ++ r3)) (impl_Type_encode_l17 (r1 ++ (r2 ++ r3)) t_Members (t_Members.length : Int) 0) (none)) (none)) <|
      sif ((t_Kind == 5))
       (sbind (impl_putBytes t_Count 1) fun r2 =>
        sbind (idx t_Base 0) fun x3 =>
        sbind (impl_Type_encode x3.f_Kind x3.f_Size x3.f_Signed x3.f_Big x3.f_Names x3.f_Nums x3.f_Members x3.f_Base x3.f_Count) fun r4 =>
        sif (joins r2 r4) (sif (joins r1 (r2 ++ r4)) (some (r1 ++ (r2 ++ r4))) (none)) (none)) (some r1)) := sem_eq (f := 167) (m := 0) rfl (by kernel_rfl)
theorem impl_Type_encode_l10_eq (out : ByteArray) (t52 : List ByteArray) (t53 : Int) (t54 : Int) (t_Kind : Int) (t_Size : Int) (t_Signed : Bool) (t_Big : Bool) (t_Names : List ByteArray) (t_Nums : List Int) (t_Members : List (ByteArray × Int × Ty_Type)) (t_Base : List Ty_Type) (t_Count : Int) :
    impl_Type_encode_l10 out t52 t53 t54 t_Kind t_Size t_Signed t_Big t_Names t_Nums t_Members t_Base t_Count = (
      sif (decide (t54 < t53))
       (sbind (idx t52 t54) fun x1 =>
        sbind (impl_putName x1) fun r2 =>
        sbind (idx t_Nums t54) fun x3 =>
        sbind (impl_putBytes x3 8) fun r4 =>
        sif (joins r2 r4)
         (sif (joins out (r2 ++ r4))
           (impl_Type_encode_l10 (out ++ (r2 ++ r4)) t52 t53 (wi64 (t54 + 1)) t_Kind t_Size t_Signed t_Big t_Names t_Nums t_Members t_Base t_Count) (none)) (none)) (some out)) := seml_eq (f := 167) (m := 0) (l := 10) (by kernel_rfl)
theorem impl_Type_encode_l17_eq (out : ByteArray) (t84 : List (ByteArray × Int × Ty_Type)) (t85 : Int) (t86 : Int) :
    impl_Type_encode_l17 out t84 t85 t86 = (
      sif (decide (t86 < t85))
       (sbind (idx t84 t86) fun x1 =>
        sbind (impl_putName x1.1) fun r2 =>
        sbind (impl_putBytes x1.2.1 1) fun r3 =>
        sif (joins r2 r3)
         (sbind (impl_Type_encode x1.2.2.f_Kind x1.2.2.f_Size x1.2.2.f_Signed x1.2.2.f_Big x1.2.2.f_Names x1.2.2.f_Nums x1.2.2.f_Members x1.2.2.f_Base x1.2.2.f_Count) fun r4 =>
          sif (joins (r2 ++ r3) r4)
           (sif (joins out ((r2 ++ r3) ++ r4)) (impl_Type_encode_l17 (out ++ ((r2 ++ r3) ++ r4)) t84 t85 (wi64 (t86 + 1))) (none)) (none)) (none)) (some out)) := seml_eq (f := 167) (m := 0) (l := 17) (by kernel_rfl)
theorem impl_putBytes_eq (n : Int) (size : Int) :
    impl_putBytes n size = (
      sif (le3 0 size size && room size.toNat 1)
       (impl_putBytes_l3 n ((List.replicate size.toNat (0 : Int)).length : Int) 0 (List.replicate size.toNat (0 : Int))) (none)) := sem_eq (f := 238) (m := 0) rfl (by kernel_rfl)
theorem impl_putBytes_l3_eq (n : Int) (t10 : Int) (t11 : Int) (out : List Int) :
    impl_putBytes_l3 n t10 t11 out = (
      sif (decide (t11 < t10))
       (sif (decide (wi64 (8 * t11) < 0)) (none) <|
        sif (lt3 0 t11 (out.length : Int))
         (impl_putBytes_l3 n t10 (wi64 (t11 + 1)) (out.set t11.toNat (wu8 (Int.fdiv n (2 ^ (min (wi64 (8 * t11)).toNat 64)))))) (none)) (some (toB out))) := seml_eq (f := 238) (m := 0) (l := 3) (by kernel_rfl)
theorem impl_truth_eq (is : Bool) :
    impl_truth is = (
      sif (is) (some 1) (some 0)) := sem_eq (f := 239) (m := 0) rfl (by kernel_rfl)
theorem impl_putName_eq (s : ByteArray) :
    impl_putName s = (
      sbind (impl_putBytes (s.size : Int) 1) fun r1 =>
      sif (joins r1 s) (some (r1 ++ s)) (none)) := sem_eq (f := 240) (m := 0) rfl (by kernel_rfl)
theorem impl_ValidDims_eq (dims : List Int) :
    impl_ValidDims dims = (
      sif (decide ((dims.length : Int) ≤ 3))
       (sbind (impl_allWithin dims 0 40) fun r1 =>
        sif (r1)
         (sbind (impl_product dims) fun r2 =>
          some (decide (r2 ≤ 600))) (some false)) (some false)) := sem_eq (f := 89) (m := 0) rfl (by kernel_rfl)
theorem impl_allWithin_eq (list : List Int) (low : Int) (high : Int) :
    impl_allWithin list low high = (
      sbind (slices_ContainsFunc_sint64_int64_d_allWithin_1 list low high) fun r1 =>
      some !r1) := sem_eq (f := 168) (m := 0) rfl (by kernel_rfl)
theorem slices_ContainsFunc_sint64_int64_d_allWithin_1_eq (s : List Int) (c0 : Int) (c1 : Int) :
    slices_ContainsFunc_sint64_int64_d_allWithin_1 s c0 c1 = (
      sbind (slices_IndexFunc_sint64_int64_d_allWithin_1 s c0 c1) fun r1 =>
      some (decide (r1 ≥ 0))) := sem_eq (f := 241) (m := 0) rfl (by kernel_rfl)
theorem slices_IndexFunc_sint64_int64_d_allWithin_1_eq (s : List Int) (c0 : Int) (c1 : Int) :
    slices_IndexFunc_sint64_int64_d_allWithin_1 s c0 c1 = (
      slices_IndexFunc_sint64_int64_d_allWithin_1_l2 s (s.length : Int) 0 c0 c1) := sem_eq (f := 289) (m := 0) rfl (by kernel_rfl)
theorem slices_IndexFunc_sint64_int64_d_allWithin_1_l2_eq (s : List Int) (t7 : Int) (t8 : Int) (c0 : Int) (c1 : Int) :
    slices_IndexFunc_sint64_int64_d_allWithin_1_l2 s t7 t8 c0 c1 = (
      sif (decide (t8 < t7))
       (sbind (idx s t8) fun x1 =>
        sbind (impl_allWithin_1 x1 c0 c1) fun r2 =>
        sif (r2) (some t8) <|
        slices_IndexFunc_sint64_int64_d_allWithin_1_l2 s t7 (wi64 (t8 + 1)) c0 c1) (some (-1))) := seml_eq (f := 289) (m := 0) (l := 2) (by kernel_rfl)
theorem impl_allWithin_1_eq (n : Int) (t1 : Int) (t2 : Int) :
    impl_allWithin_1 n t1 t2 = (
      sbind (impl_within n t1 t2) fun r1 =>
      some !r1) := sem_eq (f := 242) (m := 0) rfl (by kernel_rfl)
theorem impl_product_eq (list : List Int) :
    impl_product list = (
      impl_product_l3 1 list (list.length : Int) 0) := sem_eq (f := 109) (m := 0) rfl (by kernel_rfl)
theorem impl_product_l3_eq (out : Int) (t6 : List Int) (t7 : Int) (t8 : Int) :
    impl_product_l3 out t6 t7 t8 = (
      sif (decide (t8 < t7))
       (sbind (idx t6 t8) fun x1 =>
        impl_product_l3 (wi64 (out * x1)) t6 t7 (wi64 (t8 + 1))) (some out)) := seml_eq (f := 109) (m := 0) (l := 3) (by kernel_rfl)
theorem impl_Type_isElement_eq (t_Kind : Int) (t_Size : Int) (t_Signed : Bool) (t_Big : Bool) (t_Names : List ByteArray) (t_Nums : List Int) (t_Members : List (ByteArray × Int × Ty_Type)) (t_Base : List Ty_Type) (t_Count : Int) (b : ByteArray) :
    impl_Type_isElement t_Kind t_Size t_Signed t_Big t_Names t_Nums t_Members t_Base t_Count b = (
      sbind (impl_Type_size t_Kind t_Size t_Signed t_Big t_Names t_Nums t_Members t_Base t_Count) fun r1 =>
      sif (((b.size : Int) != r1)) (some false) <|
      sif ((t_Kind == 2))
       (sbind (impl_trimmed b) fun r2 =>
        sbind (strings_Contains r2 (bs [0])) fun r3 =>
        some !r3) <|
      sif ((t_Kind == 3))
       (sbind (impl_Type_number t_Kind t_Size t_Signed t_Big t_Names t_Nums t_Members t_Base t_Count b) fun r2 =>
        sbind (slices_Contains_sint64_int64 t_Nums r2) fun r3 =>
        some r3) <|
      sif ((t_Kind == 4))
       (sbind (impl_Type_gapsOk t_Kind t_Size t_Signed t_Big t_Names t_Nums t_Members t_Base t_Count b) fun r2 =>
        sif (!r2) (some false) <|
        sbind (impl_Type_parts t_Kind t_Size t_Signed t_Big t_Names t_Nums t_Members t_Base t_Count b) fun r3 =>
        sbind (slices_ContainsFunc_simpl_part_impl_part_d_Type_isElement_1 r3) fun r4 =>
        some !r4) <|
      sbind (impl_Type_parts t_Kind t_Size t_Signed t_Big t_Names t_Nums t_Members t_Base t_Count b) fun r2 =>
      sbind (slices_ContainsFunc_simpl_part_impl_part_d_Type_isElement_1 r2) fun r3 =>
      some !r3) := sem_eq (f := 90) (m := 0) rfl (by kernel_rfl)
theorem impl_trimmed_eq (b : ByteArray) :
    impl_trimmed b = (
      sbind (strings_TrimRight b (bs [0])) fun r1 =>
      some r1) := sem_eq (f := 153) (m := 0) rfl (by kernel_rfl)
theorem strings_TrimRight_eq (x0 : ByteArray) (x1 : ByteArray) : strings_TrimRight x0 x1 = trimR1 x0 x1 := ext_eq (E := E) (f := 234) (m := 0) (g := fun (d : ByteArray × ByteArray) => (trimR1 (d.1) (d.2) : Option (ByteArray))) (by kernel_rfl) (x0, x1)
theorem strings_Contains_eq (x0 : ByteArray) (x1 : ByteArray) : strings_Contains x0 x1 = contains1 x0 x1 := ext_eq (E := E) (f := 170) (m := 0) (g := fun (d : ByteArray × ByteArray) => (contains1 (d.1) (d.2) : Option (Bool))) (by kernel_rfl) (x0, x1)
theorem impl_Type_number_eq (t_Kind : Int) (t_Size : Int) (t_Signed : Bool) (t_Big : Bool) (t_Names : List ByteArray) (t_Nums : List Int) (t_Members : List (ByteArray × Int × Ty_Type)) (t_Base : List Ty_Type) (t_Count : Int) (b : ByteArray) :
    impl_Type_number t_Kind t_Size t_Signed t_Big t_Names t_Nums t_Members t_Base t_Count b = (
      sif ((t_Kind == 3))
       (sbind (idx t_Base 0) fun x1 =>
        sbind (impl_Type_number x1.f_Kind x1.f_Size x1.f_Signed x1.f_Big x1.f_Names x1.f_Nums x1.f_Members x1.f_Base x1.f_Count b) fun r2 =>
        some r2) <|
      sif (t_Big)
       (sbind (impl_ReverseBytes b) fun r1 =>
        sif (t_Signed)
         (sbind (impl_signed r1) fun r2 =>
          some r2) <|
        sbind (impl_getBits r1) fun r2 =>
        some (wi64 r2)) <|
      sif (t_Signed)
       (sbind (impl_signed b) fun r1 =>
        some r1) <|
      sbind (impl_getBits b) fun r1 =>
      some (wi64 r1)) := sem_eq (f := 151) (m := 0) rfl (by kernel_rfl)
theorem impl_ReverseBytes_eq (s : ByteArray) :
    impl_ReverseBytes s = (
      sbind (slices_Reverse_sbyte_byte_v (ofB s)) fun r1 =>
      some (toB r1)) := sem_eq (f := 229) (m := 0) rfl (by kernel_rfl)
theorem slices_Reverse_sbyte_byte_v_eq (s : List Int) :
    slices_Reverse_sbyte_byte_v s = (
      slices_Reverse_sbyte_byte_v_l1 0 (wi64 ((s.length : Int) - 1)) s) := sem_eq (f := 283) (m := 0) rfl (by kernel_rfl)
theorem slices_Reverse_sbyte_byte_v_l1_eq (i : Int) (j : Int) (s : List Int) :
    slices_Reverse_sbyte_byte_v_l1 i j s = (
      sif (decide (i < j))
       (sif (lt3 0 j (s.length : Int))
         (sbind (s[j.toNat]?) fun x1 =>
          sif (lt3 0 i (s.length : Int))
           (sbind (s[i.toNat]?) fun x2 =>
            sif (lt3 0 i (s.length : Int))
             (sif (lt3 0 j ((s.set i.toNat x1).length : Int))
               (slices_Reverse_sbyte_byte_v_l1 (wi64 (i + 1)) (wi64 (j - 1)) ((s.set i.toNat x1).set j.toNat x2)) (none)) (none)) (none)) (none)) (some s)) := seml_eq (f := 283) (m := 0) (l := 1) (by kernel_rfl)
theorem impl_signed_eq (s : ByteArray) :
    impl_signed s = (
      sbind (impl_getBits s) fun r1 =>
      sif (decide (wi64 (64 - (wi64 (8 * (s.size : Int)))) < 0)) (none) <|
      sif (decide (wi64 (64 - (wi64 (8 * (s.size : Int)))) < 0)) (none) <|
      some (Int.fdiv (wi64 (wu64 (r1 * 2 ^ (min (wi64 (64 - (wi64 (8 * (s.size : Int))))).toNat 64)))) (2 ^ (min (wi64 (64 - (wi64 (8 * (s.size : Int))))).toNat 64)))) := sem_eq (f := 230) (m := 0) rfl (by kernel_rfl)
theorem impl_getBits_eq (s : ByteArray) :
    impl_getBits s = (
      impl_getBits_l3 s 0 (s.size : Int) 0) := sem_eq (f := 231) (m := 0) rfl (by kernel_rfl)
theorem impl_getBits_l3_eq (s : ByteArray) (n : Int) (t6 : Int) (t7 : Int) :
    impl_getBits_l3 s n t6 t7 = (
      sif (decide (t7 < t6))
       (sbind (bidx s t7) fun b1 =>
        sif (decide (wi64 (8 * t7) < 0)) (none) <|
        impl_getBits_l3 s (bits .or .u64 n (wu64 ((wu64 b1) * 2 ^ (min (wi64 (8 * t7)).toNat 64)))) t6 (wi64 (t7 + 1))) (some n)) := seml_eq (f := 231) (m := 0) (l := 3) (by kernel_rfl)
theorem impl_Type_gapsOk_eq (t_Kind : Int) (t_Size : Int) (t_Signed : Bool) (t_Big : Bool) (t_Names : List ByteArray) (t_Nums : List Int) (t_Members : List (ByteArray × Int × Ty_Type)) (t_Base : List Ty_Type) (t_Count : Int) (b : ByteArray) :
    impl_Type_gapsOk t_Kind t_Size t_Signed t_Big t_Names t_Nums t_Members t_Base t_Count b = (
      impl_Type_gapsOk_l3 t_Members (t_Members.length : Int) 0 (ofB b)) := sem_eq (f := 171) (m := 0) rfl (by kernel_rfl)
theorem impl_Type_gapsOk_l3_eq (t11 : List (ByteArray × Int × Ty_Type)) (t12 : Int) (t13 : Int) (rest : List Int) :
    impl_Type_gapsOk_l3 t11 t12 t13 rest = (
      sif (decide (t13 < t12))
       (sbind (idx t11 t13) fun x1 =>
        sbind (impl_Type_size x1.2.2.f_Kind x1.2.2.f_Size x1.2.2.f_Signed x1.2.2.f_Big x1.2.2.f_Names x1.2.2.f_Nums x1.2.2.f_Members x1.2.2.f_Base x1.2.2.f_Count) fun r2 =>
        sif (le3 0 (wi64 (x1.2.1 + r2)) (rest.length : Int))
         (sif (le3 0 x1.2.1 (wi64 (x1.2.1 + r2)))
           (impl_Type_gapsOk_l3 t11 t12 (wi64 (t13 + 1)) (rest.take x1.2.1.toNat ++ ((List.replicate (((wi64 (x1.2.1 + r2)).toNat) - x1.2.1.toNat) (0 : Int)) ++ rest.drop (x1.2.1.toNat + (List.replicate (((wi64 (x1.2.1 + r2)).toNat) - x1.2.1.toNat) (0 : Int)).length)))) (none)) (none)) <|
      sbind (impl_trimmed (toB rest)) fun r1 =>
      some (seq r1 (bs []))) := seml_eq (f := 171) (m := 0) (l := 3) (by kernel_rfl)
theorem impl_Type_parts_eq (t_Kind : Int) (t_Size : Int) (t_Signed : Bool) (t_Big : Bool) (t_Names : List ByteArray) (t_Nums : List Int) (t_Members : List (ByteArray × Int × Ty_Type)) (t_Base : List Ty_Type) (t_Count : Int) (b : ByteArray) :
    impl_Type_parts t_Kind t_Size t_Signed t_Big t_Names t_Nums t_Members t_Base t_Count b = (
      sif ((t_Kind == 4)) (impl_Type_parts_l5 b t_Members (t_Members.length : Int) 0 ([] : List (Ty_Type × ByteArray))) <|
      sif ((t_Kind == 5))
       (sbind (idx t_Base 0) fun x1 =>
        sbind (impl_Type_size x1.f_Kind x1.f_Size x1.f_Signed x1.f_Big x1.f_Names x1.f_Nums x1.f_Members x1.f_Base x1.f_Count) fun r2 =>
        impl_Type_parts_l12 b r2 t_Count 0 t_Kind t_Size t_Signed t_Big t_Names t_Nums t_Members t_Base t_Count ([] : List (Ty_Type × ByteArray))) (some ([] : List (Ty_Type × ByteArray)))) := sem_eq (f := 148) (m := 0) rfl (by kernel_rfl)
theorem impl_Type_parts_l5_eq (b : ByteArray) (t15 : List (ByteArray × Int × Ty_Type)) (t16 : Int) (t17 : Int) (out : List (Ty_Type × ByteArray)) :
    impl_Type_parts_l5 b t15 t16 t17 out = (
      sif (decide (t17 < t16))
       (sbind (idx t15 t17) fun x1 =>
        sbind (impl_Type_size x1.2.2.f_Kind x1.2.2.f_Size x1.2.2.f_Signed x1.2.2.f_Big x1.2.2.f_Names x1.2.2.f_Nums x1.2.2.f_Members x1.2.2.f_Base x1.2.2.f_Count) fun r2 =>
        sif (le3 0 (wi64 (x1.2.1 + r2)) (b.size : Int))
         (sif (le3 0 x1.2.1 (wi64 (x1.2.1 + r2)))
           (sif (room (out.length + 1) 144)
             (impl_Type_parts_l5 b t15 t16 (wi64 (t17 + 1)) (out ++ [((Ty_Type.mk x1.2.2.f_Kind x1.2.2.f_Size x1.2.2.f_Signed x1.2.2.f_Big x1.2.2.f_Names x1.2.2.f_Nums x1.2.2.f_Members x1.2.2.f_Base x1.2.2.f_Count), b.extract x1.2.1.toNat ((wi64 (x1.2.1 + r2)).toNat))])) (none)) (none)) (none)) (some out)) := seml_eq (f := 148) (m := 0) (l := 5) (by kernel_rfl)
theorem impl_Type_parts_l12_eq (b : ByteArray) (n : Int) (t46 : Int) (t47 : Int) (t_Kind : Int) (t_Size : Int) (t_Signed : Bool) (t_Big : Bool) (t_Names : List ByteArray) (t_Nums : List Int) (t_Members : List (ByteArray × Int × Ty_Type)) (t_Base : List Ty_Type) (t_Count : Int) (out : List (Ty_Type × ByteArray)) :
    impl_Type_parts_l12 b n t46 t47 t_Kind t_Size t_Signed t_Big t_Names t_Nums t_Members t_Base t_Count out = (
      sif (decide (t47 < t46))
       (sbind (idx t_Base 0) fun x1 =>
        sif (le3 0 (wi64 ((wi64 (t47 + 1)) * n)) (b.size : Int))
         (sif (le3 0 (wi64 (t47 * n)) (wi64 ((wi64 (t47 + 1)) * n)))
           (sif (room (out.length + 1) 144)
             (impl_Type_parts_l12 b n t46 (wi64 (t47 + 1)) t_Kind t_Size t_Signed t_Big t_Names t_Nums t_Members t_Base t_Count (out ++ [((Ty_Type.mk x1.f_Kind x1.f_Size x1.f_Signed x1.f_Big x1.f_Names x1.f_Nums x1.f_Members x1.f_Base x1.f_Count), b.extract ((wi64 (t47 * n)).toNat) ((wi64 ((wi64 (t47 + 1)) * n)).toNat))])) (none)) (none)) (none)) (some out)) := seml_eq (f := 148) (m := 0) (l := 12) (by kernel_rfl)
theorem slices_ContainsFunc_simpl_part_impl_part_d_Type_isElement_1_eq (s : List (Ty_Type × ByteArray)) :
    slices_ContainsFunc_simpl_part_impl_part_d_Type_isElement_1 s = (
      sbind (slices_IndexFunc_simpl_part_impl_part_d_Type_isElement_1 s) fun r1 =>
      some (decide (r1 ≥ 0))) := sem_eq (f := 172) (m := 0) rfl (by kernel_rfl)
theorem slices_IndexFunc_simpl_part_impl_part_d_Type_isElement_1_eq (s : List (Ty_Type × ByteArray)) :
    slices_IndexFunc_simpl_part_impl_part_d_Type_isElement_1 s = (
      slices_IndexFunc_simpl_part_impl_part_d_Type_isElement_1_l2 s (s.length : Int) 0) := sem_eq (f := 244) (m := 0) rfl (by kernel_rfl)
theorem slices_IndexFunc_simpl_part_impl_part_d_Type_isElement_1_l2_eq (s : List (Ty_Type × ByteArray)) (t7 : Int) (t8 : Int) :
    slices_IndexFunc_simpl_part_impl_part_d_Type_isElement_1_l2 s t7 t8 = (
      sif (decide (t8 < t7))
       (sbind (idx s t8) fun x1 =>
        sbind (impl_Type_isElement_1 x1.1.f_Kind x1.1.f_Size x1.1.f_Signed x1.1.f_Big x1.1.f_Names x1.1.f_Nums x1.1.f_Members x1.1.f_Base x1.1.f_Count x1.2) fun r2 =>
        sif (r2) (some t8) <|
        slices_IndexFunc_simpl_part_impl_part_d_Type_isElement_1_l2 s t7 (wi64 (t8 + 1))) (some (-1))) := seml_eq (f := 244) (m := 0) (l := 2) (by kernel_rfl)
theorem impl_Type_isElement_1_eq (p_t_Kind : Int) (p_t_Size : Int) (p_t_Signed : Bool) (p_t_Big : Bool) (p_t_Names : List ByteArray) (p_t_Nums : List Int) (p_t_Members : List (ByteArray × Int × Ty_Type)) (p_t_Base : List Ty_Type) (p_t_Count : Int) (p_b : ByteArray) :
    impl_Type_isElement_1 p_t_Kind p_t_Size p_t_Signed p_t_Big p_t_Names p_t_Nums p_t_Members p_t_Base p_t_Count p_b = (
      sbind (impl_Type_isElement p_t_Kind p_t_Size p_t_Signed p_t_Big p_t_Names p_t_Nums p_t_Members p_t_Base p_t_Count p_b) fun r1 =>
      some !r1) := sem_eq (f := 173) (m := 0) rfl (by kernel_rfl)
theorem slices_ContainsFunc_simpl_Mapping_impl_Mapping_d_ValidVirtual_1_eq (s : List (ByteArray × Int × List Int × List Int × List Int × List Int × List (List Int) × Int × List Int × List Int × List Int × List Int × List (List Int))) (c0_Type_Kind : Int) (c0_Type_Size : Int) (c0_Type_Signed : Bool) (c0_Type_Big : Bool) (c0_Type_Names : List ByteArray) (c0_Type_Nums : List Int) (c0_Type_Members : List (ByteArray × Int × Ty_Type)) (c0_Type_Base : List Ty_Type) (c0_Type_Count : Int) (c0_Dims : List Int) (c0_Fill : ByteArray) (c0_Maps : List (ByteArray × Int × List Int × List Int × List Int × List Int × List (List Int) × Int × List Int × List Int × List Int × List Int × List (List Int))) :
    slices_ContainsFunc_simpl_Mapping_impl_Mapping_d_ValidVirtual_1 s c0_Type_Kind c0_Type_Size c0_Type_Signed c0_Type_Big c0_Type_Names c0_Type_Nums c0_Type_Members c0_Type_Base c0_Type_Count c0_Dims c0_Fill c0_Maps = (
      sbind (slices_IndexFunc_simpl_Mapping_impl_Mapping_d_ValidVirtual_1 s c0_Type_Kind c0_Type_Size c0_Type_Signed c0_Type_Big c0_Type_Names c0_Type_Nums c0_Type_Members c0_Type_Base c0_Type_Count c0_Dims c0_Fill c0_Maps) fun r1 =>
      some (decide (r1 ≥ 0))) := sem_eq (f := 91) (m := 0) rfl (by kernel_rfl)
theorem slices_IndexFunc_simpl_Mapping_impl_Mapping_d_ValidVirtual_1_eq (s : List (ByteArray × Int × List Int × List Int × List Int × List Int × List (List Int) × Int × List Int × List Int × List Int × List Int × List (List Int))) (c0_Type_Kind : Int) (c0_Type_Size : Int) (c0_Type_Signed : Bool) (c0_Type_Big : Bool) (c0_Type_Names : List ByteArray) (c0_Type_Nums : List Int) (c0_Type_Members : List (ByteArray × Int × Ty_Type)) (c0_Type_Base : List Ty_Type) (c0_Type_Count : Int) (c0_Dims : List Int) (c0_Fill : ByteArray) (c0_Maps : List (ByteArray × Int × List Int × List Int × List Int × List Int × List (List Int) × Int × List Int × List Int × List Int × List Int × List (List Int))) :
    slices_IndexFunc_simpl_Mapping_impl_Mapping_d_ValidVirtual_1 s c0_Type_Kind c0_Type_Size c0_Type_Signed c0_Type_Big c0_Type_Names c0_Type_Nums c0_Type_Members c0_Type_Base c0_Type_Count c0_Dims c0_Fill c0_Maps = (
      slices_IndexFunc_simpl_Mapping_impl_Mapping_d_ValidVirtual_1_l2 s (s.length : Int) 0 c0_Type_Kind c0_Type_Size c0_Type_Signed c0_Type_Big c0_Type_Names c0_Type_Nums c0_Type_Members c0_Type_Base c0_Type_Count c0_Dims c0_Fill c0_Maps) := sem_eq (f := 174) (m := 0) rfl (by kernel_rfl)
theorem slices_IndexFunc_simpl_Mapping_impl_Mapping_d_ValidVirtual_1_l2_eq (s : List (ByteArray × Int × List Int × List Int × List Int × List Int × List (List Int) × Int × List Int × List Int × List Int × List Int × List (List Int))) (t7 : Int) (t8 : Int) (c0_Type_Kind : Int) (c0_Type_Size : Int) (c0_Type_Signed : Bool) (c0_Type_Big : Bool) (c0_Type_Names : List ByteArray) (c0_Type_Nums : List Int) (c0_Type_Members : List (ByteArray × Int × Ty_Type)) (c0_Type_Base : List Ty_Type) (c0_Type_Count : Int) (c0_Dims : List Int) (c0_Fill : ByteArray) (c0_Maps : List (ByteArray × Int × List Int × List Int × List Int × List Int × List (List Int) × Int × List Int × List Int × List Int × List Int × List (List Int))) :
    slices_IndexFunc_simpl_Mapping_impl_Mapping_d_ValidVirtual_1_l2 s t7 t8 c0_Type_Kind c0_Type_Size c0_Type_Signed c0_Type_Big c0_Type_Names c0_Type_Nums c0_Type_Members c0_Type_Base c0_Type_Count c0_Dims c0_Fill c0_Maps = (
      sif (decide (t8 < t7))
       (sbind (idx s t8) fun x1 =>
        sbind (impl_ValidVirtual_1 x1.1 x1.2.1 x1.2.2.1 x1.2.2.2.1 x1.2.2.2.2.1 x1.2.2.2.2.2.1 x1.2.2.2.2.2.2.1 x1.2.2.2.2.2.2.2.1 x1.2.2.2.2.2.2.2.2.1 x1.2.2.2.2.2.2.2.2.2.1 x1.2.2.2.2.2.2.2.2.2.2.1 x1.2.2.2.2.2.2.2.2.2.2.2.1 x1.2.2.2.2.2.2.2.2.2.2.2.2 c0_Type_Kind c0_Type_Size c0_Type_Signed c0_Type_Big c0_Type_Names c0_Type_Nums c0_Type_Members c0_Type_Base c0_Type_Count c0_Dims c0_Fill c0_Maps) fun r2 =>
        sif (r2) (some t8) <|
        slices_IndexFunc_simpl_Mapping_impl_Mapping_d_ValidVirtual_1_l2 s t7 (wi64 (t8 + 1)) c0_Type_Kind c0_Type_Size c0_Type_Signed c0_Type_Big c0_Type_Names c0_Type_Nums c0_Type_Members c0_Type_Base c0_Type_Count c0_Dims c0_Fill c0_Maps) (some (-1))) := seml_eq (f := 174) (m := 0) (l := 2) (by kernel_rfl)
theorem impl_ValidVirtual_1_eq (m_Path : ByteArray) (m_Source_Kind : Int) (m_Source_Start : List Int) (m_Source_Stride : List Int) (m_Source_Count : List Int) (m_Source_Block : List Int) (m_Source_Points : List (List Int)) (m_Target_Kind : Int) (m_Target_Start : List Int) (m_Target_Stride : List Int) (m_Target_Count : List Int) (m_Target_Block : List Int) (m_Target_Points : List (List Int)) (t1_Type_Kind : Int) (t1_Type_Size : Int) (t1_Type_Signed : Bool) (t1_Type_Big : Bool) (t1_Type_Names : List ByteArray) (t1_Type_Nums : List Int) (t1_Type_Members : List (ByteArray × Int × Ty_Type)) (t1_Type_Base : List Ty_Type) (t1_Type_Count : Int) (t1_Dims : List Int) (t1_Fill : ByteArray) (t1_Maps : List (ByteArray × Int × List Int × List Int × List Int × List Int × List (List Int) × Int × List Int × List Int × List Int × List Int × List (List Int))) :
    impl_ValidVirtual_1 m_Path m_Source_Kind m_Source_Start m_Source_Stride m_Source_Count m_Source_Block m_Source_Points m_Target_Kind m_Target_Start m_Target_Stride m_Target_Count m_Target_Block m_Target_Points t1_Type_Kind t1_Type_Size t1_Type_Signed t1_Type_Big t1_Type_Names t1_Type_Nums t1_Type_Members t1_Type_Base t1_Type_Count t1_Dims t1_Fill t1_Maps = (
      sbind (impl_mappingOk m_Path m_Source_Kind m_Source_Start m_Source_Stride m_Source_Count m_Source_Block m_Source_Points m_Target_Kind m_Target_Start m_Target_Stride m_Target_Count m_Target_Block m_Target_Points) fun r1 =>
      sif (!r1) (some true) <|
      sbind (impl_Selection_fits m_Target_Kind m_Target_Start m_Target_Stride m_Target_Count m_Target_Block m_Target_Points t1_Dims) fun r2 =>
      some !r2) := sem_eq (f := 92) (m := 0) rfl (by kernel_rfl)
theorem impl_mappingOk_eq (m_Path : ByteArray) (m_Source_Kind : Int) (m_Source_Start : List Int) (m_Source_Stride : List Int) (m_Source_Count : List Int) (m_Source_Block : List Int) (m_Source_Points : List (List Int)) (m_Target_Kind : Int) (m_Target_Start : List Int) (m_Target_Stride : List Int) (m_Target_Count : List Int) (m_Target_Block : List Int) (m_Target_Points : List (List Int)) :
    impl_mappingOk m_Path m_Source_Kind m_Source_Start m_Source_Stride m_Source_Count m_Source_Block m_Source_Points m_Target_Kind m_Target_Start m_Target_Stride m_Target_Count m_Target_Block m_Target_Points = (
      sbind (impl_ValidPath m_Path) fun r1 =>
      sif (r1)
       (sbind (impl_FormedSelection m_Source_Kind m_Source_Start m_Source_Stride m_Source_Count m_Source_Block m_Source_Points) fun r2 =>
        sif (r2)
         (sbind (impl_FormedSelection m_Target_Kind m_Target_Start m_Target_Stride m_Target_Count m_Target_Block m_Target_Points) fun r3 =>
          sif (r3)
           (sif ((m_Source_Kind != 2))
             (sif ((m_Target_Kind != 2))
               (sbind (impl_Mapping_encode m_Path m_Source_Kind m_Source_Start m_Source_Stride m_Source_Count m_Source_Block m_Source_Points m_Target_Kind m_Target_Start m_Target_Stride m_Target_Count m_Target_Block m_Target_Points) fun r4 =>
                some (decide ((r4.size : Int) ≤ 200))) (some false)) (some false)) (some false)) (some false)) (some false)) := sem_eq (f := 93) (m := 0) rfl (by kernel_rfl)
theorem impl_ValidPath_eq (s : ByteArray) :
    impl_ValidPath s = (
      sbind (impl_splitPath s) fun r1 =>
      some r1.2) := sem_eq (f := 129) (m := 0) rfl (by kernel_rfl)
theorem impl_splitPath_eq (s : ByteArray) :
    impl_splitPath s = (
      sif (seq s (bs [47])) (some (([] : List ByteArray), true)) <|
      sbind (strings_CutPrefix s (bs [47])) fun r1 =>
      sbind (strings_Split r1.1 (bs [47])) fun r2 =>
      sif (!r1.2) (some (([] : List ByteArray), false)) <|
      sif (decide ((r2.length : Int) > 6)) (some (([] : List ByteArray), false)) <|
      sbind (slices_ContainsFunc_sstring_string_d_splitPath_1 r2) fun r3 =>
      sif (r3) (some (([] : List ByteArray), false)) (some (r2, true))) := sem_eq (f := 206) (m := 0) rfl (by kernel_rfl)
theorem strings_CutPrefix_eq (x0 : ByteArray) (x1 : ByteArray) : strings_CutPrefix x0 x1 = some (cutPre x0 x1) := ext_eq (E := E) (f := 264) (m := 0) (g := fun (d : ByteArray × ByteArray) => (some (cutPre (d.1) (d.2)) : Option (ByteArray × Bool))) (by kernel_rfl) (x0, x1)
theorem strings_Split_eq (x0 : ByteArray) (x1 : ByteArray) : strings_Split x0 x1 = splitI x0 x1 := ext_eq (E := E) (f := 265) (m := 0) (g := fun (d : ByteArray × ByteArray) => (splitI (d.1) (d.2) : Option (List ByteArray))) (by kernel_rfl) (x0, x1)
theorem slices_ContainsFunc_sstring_string_d_splitPath_1_eq (s : List ByteArray) :
    slices_ContainsFunc_sstring_string_d_splitPath_1 s = (
      sbind (slices_IndexFunc_sstring_string_d_splitPath_1 s) fun r1 =>
      some (decide (r1 ≥ 0))) := sem_eq (f := 266) (m := 0) rfl (by kernel_rfl)
theorem slices_IndexFunc_sstring_string_d_splitPath_1_eq (s : List ByteArray) :
    slices_IndexFunc_sstring_string_d_splitPath_1 s = (
      slices_IndexFunc_sstring_string_d_splitPath_1_l2 s (s.length : Int) 0) := sem_eq (f := 295) (m := 0) rfl (by kernel_rfl)
theorem slices_IndexFunc_sstring_string_d_splitPath_1_l2_eq (s : List ByteArray) (t7 : Int) (t8 : Int) :
    slices_IndexFunc_sstring_string_d_splitPath_1_l2 s t7 t8 = (
      sif (decide (t8 < t7))
       (sbind (idx s t8) fun x1 =>
        sbind (impl_splitPath_1 x1) fun r2 =>
        sif (r2) (some t8) <|
        slices_IndexFunc_sstring_string_d_splitPath_1_l2 s t7 (wi64 (t8 + 1))) (some (-1))) := seml_eq (f := 295) (m := 0) (l := 2) (by kernel_rfl)
theorem impl_splitPath_1_eq (n : ByteArray) :
    impl_splitPath_1 n = (
      sbind (impl_IsName n) fun r1 =>
      some !r1) := sem_eq (f := 267) (m := 0) rfl (by kernel_rfl)
theorem impl_FormedSelection_eq (s_Kind : Int) (s_Start : List Int) (s_Stride : List Int) (s_Count : List Int) (s_Block : List Int) (s_Points : List (List Int)) :
    impl_FormedSelection s_Kind s_Start s_Stride s_Count s_Block s_Points = (
      sbind (impl_SameSelection s_Kind ([] : List Int) ([] : List Int) ([] : List Int) ([] : List Int) s_Points s_Kind s_Start s_Stride s_Count s_Block s_Points) fun r1 =>
      sif ((s_Kind == 1))
       (sif ((s_Kind == 1)) (sif (r1) (some ((s_Points.length : Int) == 0)) (some false)) <|
        sif ((s_Kind == 3))
         (sif (((s_Points.length : Int) == 0))
           (sbind (impl_Selection_slabFormed s_Kind s_Start s_Stride s_Count s_Block s_Points) fun r2 =>
            some r2) (some false)) <|
        sif ((s_Kind == 4))
         (sif (r1)
           (sbind (impl_Selection_pointsFormed s_Kind s_Start s_Stride s_Count s_Block s_Points) fun r2 =>
            some r2) (some false)) (some false)) <|
      sif ((s_Kind == 2)) (sif (r1) (some ((s_Points.length : Int) == 0)) (some false)) <|
      sif ((s_Kind == 3))
       (sif (((s_Points.length : Int) == 0))
         (sbind (impl_Selection_slabFormed s_Kind s_Start s_Stride s_Count s_Block s_Points) fun r2 =>
          some r2) (some false)) <|
      sif ((s_Kind == 4))
       (sif (r1)
         (sbind (impl_Selection_pointsFormed s_Kind s_Start s_Stride s_Count s_Block s_Points) fun r2 =>
          some r2) (some false)) (some false)) := sem_eq (f := 132) (m := 0) rfl (by kernel_rfl)
theorem impl_SameSelection_eq (a_Kind : Int) (a_Start : List Int) (a_Stride : List Int) (a_Count : List Int) (a_Block : List Int) (a_Points : List (List Int)) (b_Kind : Int) (b_Start : List Int) (b_Stride : List Int) (b_Count : List Int) (b_Block : List Int) (b_Points : List (List Int)) :
    impl_SameSelection a_Kind a_Start a_Stride a_Count a_Block a_Points b_Kind b_Start b_Stride b_Count b_Block b_Points = (
      sif ((a_Kind == b_Kind))
       (sbind (impl_Selection_lists a_Kind a_Start a_Stride a_Count a_Block a_Points) fun r1 =>
        sbind (impl_Selection_lists b_Kind b_Start b_Stride b_Count b_Block b_Points) fun r2 =>
        sbind (slices_EqualFunc_ssint64_ssint64_sint64_sint64_dd_Equal_sint64_int64 r1 r2) fun r3 =>
        sif (r3)
         (sbind (slices_EqualFunc_simpl_Point_simpl_Point_impl_Point_impl_Point_dd_samePoint a_Points b_Points) fun r4 =>
          some r4) (some false)) (some false)) := sem_eq (f := 136) (m := 0) rfl (by kernel_rfl)
theorem impl_Selection_lists_eq (s_Kind : Int) (s_Start : List Int) (s_Stride : List Int) (s_Count : List Int) (s_Block : List Int) (s_Points : List (List Int)) :
    impl_Selection_lists s_Kind s_Start s_Stride s_Count s_Block s_Points = (
      some [s_Start, s_Stride, s_Count, s_Block]) := sem_eq (f := 217) (m := 0) rfl (by kernel_rfl)
theorem slices_EqualFunc_ssint64_ssint64_sint64_sint64_dd_Equal_sint64_int64_eq (s1 : List (List Int)) (s2 : List (List Int)) :
    slices_EqualFunc_ssint64_ssint64_sint64_sint64_dd_Equal_sint64_int64 s1 s2 = (
      sif (((s1.length : Int) != (s2.length : Int))) (some false) <|
      slices_EqualFunc_ssint64_ssint64_sint64_sint64_dd_Equal_sint64_int64_l4 s2 s1 (s1.length : Int) 0) := sem_eq (f := 216) (m := 0) rfl (by kernel_rfl)
theorem slices_EqualFunc_ssint64_ssint64_sint64_sint64_dd_Equal_sint64_int64_l4_eq (s2 : List (List Int)) (t15 : List (List Int)) (t16 : Int) (t17 : Int) :
    slices_EqualFunc_ssint64_ssint64_sint64_sint64_dd_Equal_sint64_int64_l4 s2 t15 t16 t17 = (
      sif (decide (t17 < t16))
       (sbind (idx t15 t17) fun x1 =>
        sbind (idx s2 t17) fun x2 =>
        sbind (slices_Equal_sint64_int64 x1 x2) fun r3 =>
        sif (!r3) (some false) <|
        slices_EqualFunc_ssint64_ssint64_sint64_sint64_dd_Equal_sint64_int64_l4 s2 t15 t16 (wi64 (t17 + 1))) (some true)) := seml_eq (f := 216) (m := 0) (l := 4) (by kernel_rfl)
theorem slices_EqualFunc_simpl_Point_simpl_Point_impl_Point_impl_Point_dd_samePoint_eq (s1 : List (List Int)) (s2 : List (List Int)) :
    slices_EqualFunc_simpl_Point_simpl_Point_impl_Point_impl_Point_dd_samePoint s1 s2 = (
      sif (((s1.length : Int) != (s2.length : Int))) (some false) <|
      slices_EqualFunc_simpl_Point_simpl_Point_impl_Point_impl_Point_dd_samePoint_l4 s2 s1 (s1.length : Int) 0) := sem_eq (f := 218) (m := 0) rfl (by kernel_rfl)
theorem slices_EqualFunc_simpl_Point_simpl_Point_impl_Point_impl_Point_dd_samePoint_l4_eq (s2 : List (List Int)) (t15 : List (List Int)) (t16 : Int) (t17 : Int) :
    slices_EqualFunc_simpl_Point_simpl_Point_impl_Point_impl_Point_dd_samePoint_l4 s2 t15 t16 t17 = (
      sif (decide (t17 < t16))
       (sbind (idx t15 t17) fun x1 =>
        sbind (idx s2 t17) fun x2 =>
        sbind (impl_samePoint x1 x2) fun r3 =>
        sif (!r3) (some false) <|
        slices_EqualFunc_simpl_Point_simpl_Point_impl_Point_impl_Point_dd_samePoint_l4 s2 t15 t16 (wi64 (t17 + 1))) (some true)) := seml_eq (f := 218) (m := 0) (l := 4) (by kernel_rfl)
theorem impl_samePoint_eq (a_At : List Int) (b_At : List Int) :
    impl_samePoint a_At b_At = (
      sbind (slices_Equal_sint64_int64 a_At b_At) fun r1 =>
      some r1) := sem_eq (f := 219) (m := 0) rfl (by kernel_rfl)
theorem impl_Selection_slabFormed_eq (s_Kind : Int) (s_Start : List Int) (s_Stride : List Int) (s_Count : List Int) (s_Block : List Int) (s_Points : List (List Int)) :
    impl_Selection_slabFormed s_Kind s_Start s_Stride s_Count s_Block s_Points = (
      sif (decide ((s_Start.length : Int) > 3)) (some false) <|
      sif (((s_Stride.length : Int) != (s_Start.length : Int))) (some false) <|
      sif (((s_Count.length : Int) != (s_Start.length : Int))) (some false) <|
      sif (((s_Block.length : Int) != (s_Start.length : Int))) (some false) <|
      impl_Selection_slabFormed_l5 (s_Start.length : Int) 0 s_Kind s_Start s_Stride s_Count s_Block s_Points) := sem_eq (f := 210) (m := 0) rfl (by kernel_rfl)
theorem impl_Selection_slabFormed_l5_eq (t31 : Int) (t32 : Int) (s_Kind : Int) (s_Start : List Int) (s_Stride : List Int) (s_Count : List Int) (s_Block : List Int) (s_Points : List (List Int)) :
    impl_Selection_slabFormed_l5 t31 t32 s_Kind s_Start s_Stride s_Count s_Block s_Points = (
      sif (decide (t32 < t31))
       (sbind (idx s_Start t32) fun x1 =>
        sbind (impl_within x1 0 40) fun r2 =>
        sif (!r2) (some false) <|
        sbind (idx s_Count t32) fun x3 =>
        sbind (impl_within x3 1 40) fun r4 =>
        sif (!r4) (some false) <|
        sbind (idx s_Block t32) fun x5 =>
        sbind (impl_within x5 1 40) fun r6 =>
        sif (!r6) (some false) <|
        sbind (idx s_Stride t32) fun x7 =>
        sbind (idx s_Block t32) fun x8 =>
        sbind (impl_within x7 x8 40) fun r9 =>
        sif (!r9) (some false) <|
        sbind (impl_Selection_end s_Kind s_Start s_Stride s_Count s_Block s_Points t32) fun r10 =>
        sif (decide (r10 > 40)) (some false) <|
        impl_Selection_slabFormed_l5 t31 (wi64 (t32 + 1)) s_Kind s_Start s_Stride s_Count s_Block s_Points) (some true)) := seml_eq (f := 210) (m := 0) (l := 5) (by kernel_rfl)
theorem impl_Selection_end_eq (s_Kind : Int) (s_Start : List Int) (s_Stride : List Int) (s_Count : List Int) (s_Block : List Int) (s_Points : List (List Int)) (i : Int) :
    impl_Selection_end s_Kind s_Start s_Stride s_Count s_Block s_Points i = (
      sbind (idx s_Start i) fun x1 =>
      sbind (idx s_Count i) fun x2 =>
      sbind (idx s_Stride i) fun x3 =>
      sbind (idx s_Block i) fun x4 =>
      some (wi64 ((wi64 (x1 + (wi64 ((wi64 (x2 - 1)) * x3)))) + x4))) := sem_eq (f := 176) (m := 0) rfl (by kernel_rfl)
theorem impl_Selection_pointsFormed_eq (s_Kind : Int) (s_Start : List Int) (s_Stride : List Int) (s_Count : List Int) (s_Block : List Int) (s_Points : List (List Int)) :
    impl_Selection_pointsFormed s_Kind s_Start s_Stride s_Count s_Block s_Points = (
      sbind (impl_within (s_Points.length : Int) 1 24) fun r1 =>
      sif (!r1) (some false) <|
      sbind (idx s_Points 0) fun x2 =>
      sif (decide ((x2.length : Int) ≤ 3))
       (sbind (slices_ContainsFunc_simpl_Point_impl_Point_d_Selection_pointsFormed_1 s_Points (x2.length : Int)) fun r3 =>
        some !r3) (some false)) := sem_eq (f := 211) (m := 0) rfl (by kernel_rfl)
theorem slices_ContainsFunc_simpl_Point_impl_Point_d_Selection_pointsFormed_1_eq (s : List (List Int)) (c0 : Int) :
    slices_ContainsFunc_simpl_Point_impl_Point_d_Selection_pointsFormed_1 s c0 = (
      sbind (slices_IndexFunc_simpl_Point_impl_Point_d_Selection_pointsFormed_1 s c0) fun r1 =>
      some (decide (r1 ≥ 0))) := sem_eq (f := 177) (m := 0) rfl (by kernel_rfl)
theorem slices_IndexFunc_simpl_Point_impl_Point_d_Selection_pointsFormed_1_eq (s : List (List Int)) (c0 : Int) :
    slices_IndexFunc_simpl_Point_impl_Point_d_Selection_pointsFormed_1 s c0 = (
      slices_IndexFunc_simpl_Point_impl_Point_d_Selection_pointsFormed_1_l2 s (s.length : Int) 0 c0) := sem_eq (f := 246) (m := 0) rfl (by kernel_rfl)
theorem slices_IndexFunc_simpl_Point_impl_Point_d_Selection_pointsFormed_1_l2_eq (s : List (List Int)) (t7 : Int) (t8 : Int) (c0 : Int) :
    slices_IndexFunc_simpl_Point_impl_Point_d_Selection_pointsFormed_1_l2 s t7 t8 c0 = (
      sif (decide (t8 < t7))
       (sbind (idx s t8) fun x1 =>
        sbind (impl_Selection_pointsFormed_1 x1 c0) fun r2 =>
        sif (r2) (some t8) <|
        slices_IndexFunc_simpl_Point_impl_Point_d_Selection_pointsFormed_1_l2 s t7 (wi64 (t8 + 1)) c0) (some (-1))) := seml_eq (f := 246) (m := 0) (l := 2) (by kernel_rfl)
theorem impl_Selection_pointsFormed_1_eq (p_At : List Int) (t1 : Int) :
    impl_Selection_pointsFormed_1 p_At t1 = (
      sif (((p_At.length : Int) != t1)) (some true) <|
      sbind (impl_allWithin p_At 0 39) fun r1 =>
      some !r1) := sem_eq (f := 272) (m := 0) rfl (by kernel_rfl)
theorem impl_Mapping_encode_eq (m_Path : ByteArray) (m_Source_Kind : Int) (m_Source_Start : List Int) (m_Source_Stride : List Int) (m_Source_Count : List Int) (m_Source_Block : List Int) (m_Source_Points : List (List Int)) (m_Target_Kind : Int) (m_Target_Start : List Int) (m_Target_Stride : List Int) (m_Target_Count : List Int) (m_Target_Block : List Int) (m_Target_Points : List (List Int)) :
    impl_Mapping_encode m_Path m_Source_Kind m_Source_Start m_Source_Stride m_Source_Count m_Source_Block m_Source_Points m_Target_Kind m_Target_Start m_Target_Stride m_Target_Count m_Target_Block m_Target_Points = (
      sbind (impl_putName m_Path) fun r1 =>
      sbind (impl_Selection_encode m_Source_Kind m_Source_Start m_Source_Stride m_Source_Count m_Source_Block m_Source_Points) fun r2 =>
      sif (joins r1 r2)
       (sbind (impl_Selection_encode m_Target_Kind m_Target_Start m_Target_Stride m_Target_Count m_Target_Block m_Target_Points) fun r3 =>
        sif (joins (r1 ++ r2) r3) (some ((r1 ++ r2) ++ r3)) (none)) (none)) := sem_eq (f := 175) (m := 0) rfl (by kernel_rfl)
theorem impl_Selection_encode_eq (s_Kind : Int) (s_Start : List Int) (s_Stride : List Int) (s_Count : List Int) (s_Block : List Int) (s_Points : List (List Int)) :
    impl_Selection_encode s_Kind s_Start s_Stride s_Count s_Block s_Points = (
      sbind (impl_putBytes s_Kind 1) fun r1 =>
      sif ((s_Kind == 3))
       (sbind (impl_putBytes (s_Start.length : Int) 1) fun r2 =>
        sif (joins r1 r2)
         (sbind (impl_Selection_lists s_Kind s_Start s_Stride s_Count s_Block s_Points) fun r3 =>
          impl_Selection_encode_l6 (r1 ++ r2) (r3.length : Int) 0 r3) (none)) <|
      sif ((s_Kind == 4))
       (sbind (impl_putBytes (s_Points.length : Int) 1) fun r2 =>
        sbind (idx s_Points 0) fun x3 =>
        sbind (impl_putBytes (x3.length : Int) 1) fun r4 =>
        sif (joins r2 r4)
         (sif (joins r1 (r2 ++ r4)) (impl_Selection_encode_l13 (r1 ++ (r2 ++ r4)) s_Points (s_Points.length : Int) 0) (none)) (none)) (some r1)) := sem_eq (f := 245) (m := 0) rfl (by kernel_rfl)
theorem impl_Selection_encode_l6_eq (out : ByteArray) (t23 : Int) (t24 : Int) (t22 : List (List Int)) :
    impl_Selection_encode_l6 out t23 t24 t22 = (
      sif (decide (t24 < t23))
       (sif (lt3 0 t24 (t22.length : Int))
         (sbind (t22[t24.toNat]?) fun x1 =>
          sbind (impl_putNumbers x1) fun r2 =>
          sif (joins out r2) (impl_Selection_encode_l6 (out ++ r2) t23 (wi64 (t24 + 1)) t22) (none)) (none)) (some out)) := seml_eq (f := 245) (m := 0) (l := 6) (by kernel_rfl)
theorem impl_Selection_encode_l13_eq (out : ByteArray) (t50 : List (List Int)) (t51 : Int) (t52 : Int) :
    impl_Selection_encode_l13 out t50 t51 t52 = (
      sif (decide (t52 < t51))
       (sbind (idx t50 t52) fun x1 =>
        sbind (impl_putNumbers x1) fun r2 =>
        sif (joins out r2) (impl_Selection_encode_l13 (out ++ r2) t50 t51 (wi64 (t52 + 1))) (none)) (some out)) := seml_eq (f := 245) (m := 0) (l := 13) (by kernel_rfl)
theorem impl_putNumbers_eq (list : List Int) :
    impl_putNumbers list = (
      impl_putNumbers_l3 list (list.length : Int) 0 ([] : List Int)) := sem_eq (f := 291) (m := 0) rfl (by kernel_rfl)
theorem impl_putNumbers_l3_eq (t6 : List Int) (t7 : Int) (t8 : Int) (b_buf : List Int) :
    impl_putNumbers_l3 t6 t7 t8 b_buf = (
      sif (decide (t8 < t7))
       (sbind (idx t6 t8) fun x1 =>
        sbind (impl_putBytes x1 1) fun r2 =>
        sbind (strings_Builder_WriteString_wv r2 b_buf) fun r3 =>
        impl_putNumbers_l3 t6 t7 (wi64 (t8 + 1)) r3.2) <|
      sbind (strings_Builder_String b_buf) fun r1 =>
      some r1) := seml_eq (f := 291) (m := 0) (l := 3) (by kernel_rfl)
theorem strings_Builder_WriteString_wv_eq (s : ByteArray) (b_buf : List Int) :
    strings_Builder_WriteString_wv s b_buf = (
      sbind (strings_Builder_copyCheck ()) fun r1 =>
      sif (room (b_buf.length + ((ofB s).length)) 1) (some ((s.size : Int), b_buf ++ (ofB s))) (none)) := sem_eq (f := 163) (m := 0) rfl (by kernel_rfl)
theorem strings_Builder_copyCheck_eq : strings_Builder_copyCheck () = some () := ext_eq (E := E) (f := 237) (m := 0) (g := fun (_ : Unit) => (some () : Option Unit)) (by kernel_rfl) ()
theorem strings_Builder_String_eq (x0 : List Int) : strings_Builder_String x0 = textB x0 := ext_eq (E := E) (f := 165) (m := 0) (g := fun (d : List Int) => (textB (d) : Option (ByteArray))) (by kernel_rfl) (x0)
theorem impl_Selection_fits_eq (s_Kind : Int) (s_Start : List Int) (s_Stride : List Int) (s_Count : List Int) (s_Block : List Int) (s_Points : List (List Int)) (dims : List Int) :
    impl_Selection_fits s_Kind s_Start s_Stride s_Count s_Block s_Points dims = (
      sif ((s_Kind == 3))
       (sif (((s_Start.length : Int) != (dims.length : Int))) (some false) <|
        impl_Selection_fits_l6 dims (dims.length : Int) 0 s_Kind s_Start s_Stride s_Count s_Block s_Points) <|
      sif ((s_Kind == 4))
       (sbind (slices_ContainsFunc_simpl_Point_impl_Point_d_Selection_fits_1 s_Points dims) fun r1 =>
        some !r1) (some true)) := sem_eq (f := 94) (m := 0) rfl (by kernel_rfl)
theorem impl_Selection_fits_l6_eq (t17 : List Int) (t18 : Int) (t19 : Int) (s_Kind : Int) (s_Start : List Int) (s_Stride : List Int) (s_Count : List Int) (s_Block : List Int) (s_Points : List (List Int)) :
    impl_Selection_fits_l6 t17 t18 t19 s_Kind s_Start s_Stride s_Count s_Block s_Points = (
      sif (decide (t19 < t18))
       (sbind (idx t17 t19) fun x1 =>
        sbind (impl_Selection_end s_Kind s_Start s_Stride s_Count s_Block s_Points t19) fun r2 =>
        sif (decide (r2 > x1)) (some false) <|
        impl_Selection_fits_l6 t17 t18 (wi64 (t19 + 1)) s_Kind s_Start s_Stride s_Count s_Block s_Points) (some true)) := seml_eq (f := 94) (m := 0) (l := 6) (by kernel_rfl)
theorem slices_ContainsFunc_simpl_Point_impl_Point_d_Selection_fits_1_eq (s : List (List Int)) (c0 : List Int) :
    slices_ContainsFunc_simpl_Point_impl_Point_d_Selection_fits_1 s c0 = (
      sbind (slices_IndexFunc_simpl_Point_impl_Point_d_Selection_fits_1 s c0) fun r1 =>
      some (decide (r1 ≥ 0))) := sem_eq (f := 177) (m := 1) rfl (by kernel_rfl)
theorem slices_IndexFunc_simpl_Point_impl_Point_d_Selection_fits_1_eq (s : List (List Int)) (c0 : List Int) :
    slices_IndexFunc_simpl_Point_impl_Point_d_Selection_fits_1 s c0 = (
      slices_IndexFunc_simpl_Point_impl_Point_d_Selection_fits_1_l2 s (s.length : Int) 0 c0) := sem_eq (f := 246) (m := 1) rfl (by kernel_rfl)
theorem slices_IndexFunc_simpl_Point_impl_Point_d_Selection_fits_1_l2_eq (s : List (List Int)) (t7 : Int) (t8 : Int) (c0 : List Int) :
    slices_IndexFunc_simpl_Point_impl_Point_d_Selection_fits_1_l2 s t7 t8 c0 = (
      sif (decide (t8 < t7))
       (sbind (idx s t8) fun x1 =>
        sbind (impl_Selection_fits_1 x1 c0) fun r2 =>
        sif (r2) (some t8) <|
        slices_IndexFunc_simpl_Point_impl_Point_d_Selection_fits_1_l2 s t7 (wi64 (t8 + 1)) c0) (some (-1))) := seml_eq (f := 246) (m := 1) (l := 2) (by kernel_rfl)
theorem impl_Selection_fits_1_eq (p_At : List Int) (t1 : List Int) :
    impl_Selection_fits_1 p_At t1 = (
      sbind (impl_inDims t1 p_At) fun r1 =>
      some !r1) := sem_eq (f := 178) (m := 0) rfl (by kernel_rfl)
theorem impl_inDims_eq (dims : List Int) (at_ : List Int) :
    impl_inDims dims at_ = (
      sif (((at_.length : Int) != (dims.length : Int))) (some false) (impl_inDims_l4 dims at_ (at_.length : Int) 0)) := sem_eq (f := 47) (m := 0) rfl (by kernel_rfl)
theorem impl_inDims_l4_eq (dims : List Int) (t12 : List Int) (t13 : Int) (t14 : Int) :
    impl_inDims_l4 dims t12 t13 t14 = (
      sif (decide (t14 < t13))
       (sbind (idx t12 t14) fun x1 =>
        sbind (idx dims t14) fun x2 =>
        sbind (impl_within x1 0 (wi64 (x2 - 1))) fun r3 =>
        sif (!r3) (some false) (impl_inDims_l4 dims t12 t13 (wi64 (t14 + 1)))) (some true)) := seml_eq (f := 47) (m := 0) (l := 4) (by kernel_rfl)
theorem laws_eqVirtual_eq (a_Type_Kind : Int) (a_Type_Size : Int) (a_Type_Signed : Bool) (a_Type_Big : Bool) (a_Type_Names : List ByteArray) (a_Type_Nums : List Int) (a_Type_Members : List (ByteArray × Int × Ty_Type)) (a_Type_Base : List Ty_Type) (a_Type_Count : Int) (a_Dims : List Int) (a_Fill : ByteArray) (a_Maps : List (ByteArray × Int × List Int × List Int × List Int × List Int × List (List Int) × Int × List Int × List Int × List Int × List Int × List (List Int))) (b_Type_Kind : Int) (b_Type_Size : Int) (b_Type_Signed : Bool) (b_Type_Big : Bool) (b_Type_Names : List ByteArray) (b_Type_Nums : List Int) (b_Type_Members : List (ByteArray × Int × Ty_Type)) (b_Type_Base : List Ty_Type) (b_Type_Count : Int) (b_Dims : List Int) (b_Fill : ByteArray) (b_Maps : List (ByteArray × Int × List Int × List Int × List Int × List Int × List (List Int) × Int × List Int × List Int × List Int × List Int × List (List Int))) :
    laws_eqVirtual a_Type_Kind a_Type_Size a_Type_Signed a_Type_Big a_Type_Names a_Type_Nums a_Type_Members a_Type_Base a_Type_Count a_Dims a_Fill a_Maps b_Type_Kind b_Type_Size b_Type_Signed b_Type_Big b_Type_Names b_Type_Nums b_Type_Members b_Type_Base b_Type_Count b_Dims b_Fill b_Maps = (
      sbind (laws_eqType a_Type_Kind a_Type_Size a_Type_Signed a_Type_Big a_Type_Names a_Type_Nums a_Type_Members a_Type_Base a_Type_Count b_Type_Kind b_Type_Size b_Type_Signed b_Type_Big b_Type_Names b_Type_Nums b_Type_Members b_Type_Base b_Type_Count) fun r1 =>
      sif (!r1) (some false) <|
      sbind (laws_eqInt64S a_Dims b_Dims) fun r2 =>
      sif (!r2) (some false) <|
      sif (!seq a_Fill b_Fill) (some false) <|
      sbind (laws_eqMappingS a_Maps b_Maps) fun r3 =>
      sif (!r3) (some false) (some true)) := sem_eq (f := 14) (m := 0) rfl (by kernel_rfl)
theorem laws_eqType_eq (a_Kind : Int) (a_Size : Int) (a_Signed : Bool) (a_Big : Bool) (a_Names : List ByteArray) (a_Nums : List Int) (a_Members : List (ByteArray × Int × Ty_Type)) (a_Base : List Ty_Type) (a_Count : Int) (b_Kind : Int) (b_Size : Int) (b_Signed : Bool) (b_Big : Bool) (b_Names : List ByteArray) (b_Nums : List Int) (b_Members : List (ByteArray × Int × Ty_Type)) (b_Base : List Ty_Type) (b_Count : Int) :
    laws_eqType a_Kind a_Size a_Signed a_Big a_Names a_Nums a_Members a_Base a_Count b_Kind b_Size b_Signed b_Big b_Names b_Nums b_Members b_Base b_Count = (
      sif ((a_Kind != b_Kind)) (some false) <|
      sif ((a_Size != b_Size)) (some false) <|
      sif (!(a_Signed == b_Signed)) (some false) <|
      sif (!(a_Big == b_Big)) (some false) <|
      sbind (laws_eqStringS a_Names b_Names) fun r1 =>
      sif (!r1) (some false) <|
      sbind (laws_eqInt64S a_Nums b_Nums) fun r2 =>
      sif (!r2) (some false) <|
      sbind (laws_eqMemberS a_Members b_Members) fun r3 =>
      sif (!r3) (some false) <|
      sbind (laws_eqTypeS a_Base b_Base) fun r4 =>
      sif (!r4) (some false) (sif ((a_Count != b_Count)) (some false) (some true))) := sem_eq (f := 31) (m := 0) rfl (by kernel_rfl)
theorem laws_eqStringS_eq (a : List ByteArray) (b : List ByteArray) :
    laws_eqStringS a b = (
      sif (((a.length : Int) != (b.length : Int))) (some false) (laws_eqStringS_l4 a b 0)) := sem_eq (f := 18) (m := 0) rfl (by kernel_rfl)
theorem laws_eqStringS_l4_eq (a : List ByteArray) (b : List ByteArray) (i : Int) :
    laws_eqStringS_l4 a b i = (
      sif (decide (i < (a.length : Int)))
       (sbind (idx a i) fun x1 =>
        sbind (idx b i) fun x2 =>
        sif (!seq x1 x2) (some false) (laws_eqStringS_l4 a b (wi64 (i + 1)))) (some true)) := seml_eq (f := 18) (m := 0) (l := 4) (by kernel_rfl)
theorem laws_eqInt64S_eq (a : List Int) (b : List Int) :
    laws_eqInt64S a b = (
      sif (((a.length : Int) != (b.length : Int))) (some false) (laws_eqInt64S_l4 a b 0)) := sem_eq (f := 15) (m := 0) rfl (by kernel_rfl)
theorem laws_eqInt64S_l4_eq (a : List Int) (b : List Int) (i : Int) :
    laws_eqInt64S_l4 a b i = (
      sif (decide (i < (a.length : Int)))
       (sbind (idx a i) fun x1 =>
        sbind (idx b i) fun x2 =>
        sif ((x1 != x2)) (some false) (laws_eqInt64S_l4 a b (wi64 (i + 1)))) (some true)) := seml_eq (f := 15) (m := 0) (l := 4) (by kernel_rfl)
theorem laws_eqMemberS_eq (a : List (ByteArray × Int × Ty_Type)) (b : List (ByteArray × Int × Ty_Type)) :
    laws_eqMemberS a b = (
      sif (((a.length : Int) != (b.length : Int))) (some false) (laws_eqMemberS_l4 a b 0)) := sem_eq (f := 78) (m := 0) rfl (by kernel_rfl)
theorem laws_eqMemberS_l4_eq (a : List (ByteArray × Int × Ty_Type)) (b : List (ByteArray × Int × Ty_Type)) (i : Int) :
    laws_eqMemberS_l4 a b i = (
      sif (decide (i < (a.length : Int)))
       (sbind (idx a i) fun x1 =>
        sbind (idx b i) fun x2 =>
        sbind (laws_eqMember x1.1 x1.2.1 x1.2.2.f_Kind x1.2.2.f_Size x1.2.2.f_Signed x1.2.2.f_Big x1.2.2.f_Names x1.2.2.f_Nums x1.2.2.f_Members x1.2.2.f_Base x1.2.2.f_Count x2.1 x2.2.1 x2.2.2.f_Kind x2.2.2.f_Size x2.2.2.f_Signed x2.2.2.f_Big x2.2.2.f_Names x2.2.2.f_Nums x2.2.2.f_Members x2.2.2.f_Base x2.2.2.f_Count) fun r3 =>
        sif (!r3) (some false) (laws_eqMemberS_l4 a b (wi64 (i + 1)))) (some true)) := seml_eq (f := 78) (m := 0) (l := 4) (by kernel_rfl)
theorem laws_eqMember_eq (a_Name : ByteArray) (a_Offset : Int) (a_Type_Kind : Int) (a_Type_Size : Int) (a_Type_Signed : Bool) (a_Type_Big : Bool) (a_Type_Names : List ByteArray) (a_Type_Nums : List Int) (a_Type_Members : List (ByteArray × Int × Ty_Type)) (a_Type_Base : List Ty_Type) (a_Type_Count : Int) (b_Name : ByteArray) (b_Offset : Int) (b_Type_Kind : Int) (b_Type_Size : Int) (b_Type_Signed : Bool) (b_Type_Big : Bool) (b_Type_Names : List ByteArray) (b_Type_Nums : List Int) (b_Type_Members : List (ByteArray × Int × Ty_Type)) (b_Type_Base : List Ty_Type) (b_Type_Count : Int) :
    laws_eqMember a_Name a_Offset a_Type_Kind a_Type_Size a_Type_Signed a_Type_Big a_Type_Names a_Type_Nums a_Type_Members a_Type_Base a_Type_Count b_Name b_Offset b_Type_Kind b_Type_Size b_Type_Signed b_Type_Big b_Type_Names b_Type_Nums b_Type_Members b_Type_Base b_Type_Count = (
      sif (!seq a_Name b_Name) (some false) <|
      sif ((a_Offset != b_Offset)) (some false) <|
      sbind (laws_eqType a_Type_Kind a_Type_Size a_Type_Signed a_Type_Big a_Type_Names a_Type_Nums a_Type_Members a_Type_Base a_Type_Count b_Type_Kind b_Type_Size b_Type_Signed b_Type_Big b_Type_Names b_Type_Nums b_Type_Members b_Type_Base b_Type_Count) fun r1 =>
      sif (!r1) (some false) (some true)) := sem_eq (f := 154) (m := 0) rfl (by kernel_rfl)
theorem laws_eqTypeS_eq (a : List Ty_Type) (b : List Ty_Type) :
    laws_eqTypeS a b = (
      sif (((a.length : Int) != (b.length : Int))) (some false) (laws_eqTypeS_l4 a b 0)) := sem_eq (f := 79) (m := 0) rfl (by kernel_rfl)
theorem laws_eqTypeS_l4_eq (a : List Ty_Type) (b : List Ty_Type) (i : Int) :
    laws_eqTypeS_l4 a b i = (
      sif (decide (i < (a.length : Int)))
       (sbind (idx a i) fun x1 =>
        sbind (idx b i) fun x2 =>
        sbind (laws_eqType x1.f_Kind x1.f_Size x1.f_Signed x1.f_Big x1.f_Names x1.f_Nums x1.f_Members x1.f_Base x1.f_Count x2.f_Kind x2.f_Size x2.f_Signed x2.f_Big x2.f_Names x2.f_Nums x2.f_Members x2.f_Base x2.f_Count) fun r3 =>
        sif (!r3) (some false) (laws_eqTypeS_l4 a b (wi64 (i + 1)))) (some true)) := seml_eq (f := 79) (m := 0) (l := 4) (by kernel_rfl)
theorem laws_eqMappingS_eq (a : List (ByteArray × Int × List Int × List Int × List Int × List Int × List (List Int) × Int × List Int × List Int × List Int × List Int × List (List Int))) (b : List (ByteArray × Int × List Int × List Int × List Int × List Int × List (List Int) × Int × List Int × List Int × List Int × List Int × List (List Int))) :
    laws_eqMappingS a b = (
      sif (((a.length : Int) != (b.length : Int))) (some false) (laws_eqMappingS_l4 a b 0)) := sem_eq (f := 52) (m := 0) rfl (by kernel_rfl)
theorem laws_eqMappingS_l4_eq (a : List (ByteArray × Int × List Int × List Int × List Int × List Int × List (List Int) × Int × List Int × List Int × List Int × List Int × List (List Int))) (b : List (ByteArray × Int × List Int × List Int × List Int × List Int × List (List Int) × Int × List Int × List Int × List Int × List Int × List (List Int))) (i : Int) :
    laws_eqMappingS_l4 a b i = (
      sif (decide (i < (a.length : Int)))
       (sbind (idx a i) fun x1 =>
        sbind (idx b i) fun x2 =>
        sbind (laws_eqMapping x1.1 x1.2.1 x1.2.2.1 x1.2.2.2.1 x1.2.2.2.2.1 x1.2.2.2.2.2.1 x1.2.2.2.2.2.2.1 x1.2.2.2.2.2.2.2.1 x1.2.2.2.2.2.2.2.2.1 x1.2.2.2.2.2.2.2.2.2.1 x1.2.2.2.2.2.2.2.2.2.2.1 x1.2.2.2.2.2.2.2.2.2.2.2.1 x1.2.2.2.2.2.2.2.2.2.2.2.2 x2.1 x2.2.1 x2.2.2.1 x2.2.2.2.1 x2.2.2.2.2.1 x2.2.2.2.2.2.1 x2.2.2.2.2.2.2.1 x2.2.2.2.2.2.2.2.1 x2.2.2.2.2.2.2.2.2.1 x2.2.2.2.2.2.2.2.2.2.1 x2.2.2.2.2.2.2.2.2.2.2.1 x2.2.2.2.2.2.2.2.2.2.2.2.1 x2.2.2.2.2.2.2.2.2.2.2.2.2) fun r3 =>
        sif (!r3) (some false) (laws_eqMappingS_l4 a b (wi64 (i + 1)))) (some true)) := seml_eq (f := 52) (m := 0) (l := 4) (by kernel_rfl)
theorem laws_eqMapping_eq (a_Path : ByteArray) (a_Source_Kind : Int) (a_Source_Start : List Int) (a_Source_Stride : List Int) (a_Source_Count : List Int) (a_Source_Block : List Int) (a_Source_Points : List (List Int)) (a_Target_Kind : Int) (a_Target_Start : List Int) (a_Target_Stride : List Int) (a_Target_Count : List Int) (a_Target_Block : List Int) (a_Target_Points : List (List Int)) (b_Path : ByteArray) (b_Source_Kind : Int) (b_Source_Start : List Int) (b_Source_Stride : List Int) (b_Source_Count : List Int) (b_Source_Block : List Int) (b_Source_Points : List (List Int)) (b_Target_Kind : Int) (b_Target_Start : List Int) (b_Target_Stride : List Int) (b_Target_Count : List Int) (b_Target_Block : List Int) (b_Target_Points : List (List Int)) :
    laws_eqMapping a_Path a_Source_Kind a_Source_Start a_Source_Stride a_Source_Count a_Source_Block a_Source_Points a_Target_Kind a_Target_Start a_Target_Stride a_Target_Count a_Target_Block a_Target_Points b_Path b_Source_Kind b_Source_Start b_Source_Stride b_Source_Count b_Source_Block b_Source_Points b_Target_Kind b_Target_Start b_Target_Stride b_Target_Count b_Target_Block b_Target_Points = (
      sif (!seq a_Path b_Path) (some false) <|
      sbind (laws_eqSelection a_Source_Kind a_Source_Start a_Source_Stride a_Source_Count a_Source_Block a_Source_Points b_Source_Kind b_Source_Start b_Source_Stride b_Source_Count b_Source_Block b_Source_Points) fun r1 =>
      sif (!r1) (some false) <|
      sbind (laws_eqSelection a_Target_Kind a_Target_Start a_Target_Stride a_Target_Count a_Target_Block a_Target_Points b_Target_Kind b_Target_Start b_Target_Stride b_Target_Count b_Target_Block b_Target_Points) fun r2 =>
      sif (!r2) (some false) (some true)) := sem_eq (f := 111) (m := 0) rfl (by kernel_rfl)
theorem laws_eqSelection_eq (a_Kind : Int) (a_Start : List Int) (a_Stride : List Int) (a_Count : List Int) (a_Block : List Int) (a_Points : List (List Int)) (b_Kind : Int) (b_Start : List Int) (b_Stride : List Int) (b_Count : List Int) (b_Block : List Int) (b_Points : List (List Int)) :
    laws_eqSelection a_Kind a_Start a_Stride a_Count a_Block a_Points b_Kind b_Start b_Stride b_Count b_Block b_Points = (
      sif ((a_Kind != b_Kind)) (some false) <|
      sbind (laws_eqInt64S a_Start b_Start) fun r1 =>
      sif (!r1) (some false) <|
      sbind (laws_eqInt64S a_Stride b_Stride) fun r2 =>
      sif (!r2) (some false) <|
      sbind (laws_eqInt64S a_Count b_Count) fun r3 =>
      sif (!r3) (some false) <|
      sbind (laws_eqInt64S a_Block b_Block) fun r4 =>
      sif (!r4) (some false) <|
      sbind (laws_eqPointS a_Points b_Points) fun r5 =>
      sif (!r5) (some false) (some true)) := sem_eq (f := 39) (m := 0) rfl (by kernel_rfl)
theorem laws_eqPointS_eq (a : List (List Int)) (b : List (List Int)) :
    laws_eqPointS a b = (
      sif (((a.length : Int) != (b.length : Int))) (some false) (laws_eqPointS_l4 a b 0)) := sem_eq (f := 87) (m := 0) rfl (by kernel_rfl)
theorem laws_eqPointS_l4_eq (a : List (List Int)) (b : List (List Int)) (i : Int) :
    laws_eqPointS_l4 a b i = (
      sif (decide (i < (a.length : Int)))
       (sbind (idx a i) fun x1 =>
        sbind (idx b i) fun x2 =>
        sbind (laws_eqPoint x1 x2) fun r3 =>
        sif (!r3) (some false) (laws_eqPointS_l4 a b (wi64 (i + 1)))) (some true)) := seml_eq (f := 87) (m := 0) (l := 4) (by kernel_rfl)
theorem laws_eqPoint_eq (a_At : List Int) (b_At : List Int) :
    laws_eqPoint a_At b_At = (
      sbind (laws_eqInt64S a_At b_At) fun r1 =>
      sif (!r1) (some false) (some true)) := sem_eq (f := 166) (m := 0) rfl (by kernel_rfl)
def Ok_Ty_Type (x : Ty_Type) : Prop := ((Lit.int .i64 x.f_Kind).wf = true) ∧ ((Lit.int .i64 x.f_Size).wf = true) ∧ (True) ∧ (True) ∧ (x.f_Names.length ≤ maxLen ∧ x.f_Names.length * 16 ≤ 140737488351232 ∧ ∀ e_ ∈ x.f_Names, e_.size ≤ 140737488351232) ∧ (x.f_Nums.length ≤ maxLen ∧ x.f_Nums.length * 8 ≤ 140737488351232 ∧ ∀ e_ ∈ x.f_Nums, (Lit.int .i64 e_).wf = true) ∧ (x.f_Members.length ≤ maxLen ∧ x.f_Members.length * 152 ≤ 140737488351232 ∧ ∀ e_ ∈ x.f_Members, (e_.1.size ≤ 140737488351232) ∧ ((Lit.int .i64 e_.2.1).wf = true) ∧ (Ok_Ty_Type e_.2.2)) ∧ (x.f_Base.length ≤ maxLen ∧ x.f_Base.length * 128 ≤ 140737488351232 ∧ ∀ e_ ∈ x.f_Base, Ok_Ty_Type e_) ∧ ((Lit.int .i64 x.f_Count).wf = true)
termination_by SizeOf.sizeOf x
decreasing_by
  · obtain ⟨⟩ := x
    have h1 := List.sizeOf_lt_of_mem ‹_ ∈ _›
    obtain ⟨a0, a1, a2⟩ := e_
    simp [Ty_Type.f_Members] at h1 ⊢
    omega
  · obtain ⟨⟩ := x
    have h1 := List.sizeOf_lt_of_mem ‹_ ∈ _›
    simp [Ty_Type.f_Base] at h1 ⊢
    omega
theorem Ok_Ty_Type.mk (x : Ty_Type) (h : ((Lit.int .i64 x.f_Kind).wf = true) ∧ ((Lit.int .i64 x.f_Size).wf = true) ∧ (True) ∧ (True) ∧ (x.f_Names.length ≤ maxLen ∧ x.f_Names.length * 16 ≤ 140737488351232 ∧ ∀ e_ ∈ x.f_Names, e_.size ≤ 140737488351232) ∧ (x.f_Nums.length ≤ maxLen ∧ x.f_Nums.length * 8 ≤ 140737488351232 ∧ ∀ e_ ∈ x.f_Nums, (Lit.int .i64 e_).wf = true) ∧ (x.f_Members.length ≤ maxLen ∧ x.f_Members.length * 152 ≤ 140737488351232 ∧ ∀ e_ ∈ x.f_Members, (e_.1.size ≤ 140737488351232) ∧ ((Lit.int .i64 e_.2.1).wf = true) ∧ (Ok_Ty_Type e_.2.2)) ∧ (x.f_Base.length ≤ maxLen ∧ x.f_Base.length * 128 ≤ 140737488351232 ∧ ∀ e_ ∈ x.f_Base, Ok_Ty_Type e_) ∧ ((Lit.int .i64 x.f_Count).wf = true)) : Ok_Ty_Type x := by rw [Ok_Ty_Type]; exact h
theorem Ok_Ty_Type.out {x : Ty_Type} (h : Ok_Ty_Type x) : ((Lit.int .i64 x.f_Kind).wf = true) ∧ ((Lit.int .i64 x.f_Size).wf = true) ∧ (True) ∧ (True) ∧ (x.f_Names.length ≤ maxLen ∧ x.f_Names.length * 16 ≤ 140737488351232 ∧ ∀ e_ ∈ x.f_Names, e_.size ≤ 140737488351232) ∧ (x.f_Nums.length ≤ maxLen ∧ x.f_Nums.length * 8 ≤ 140737488351232 ∧ ∀ e_ ∈ x.f_Nums, (Lit.int .i64 e_).wf = true) ∧ (x.f_Members.length ≤ maxLen ∧ x.f_Members.length * 152 ≤ 140737488351232 ∧ ∀ e_ ∈ x.f_Members, (e_.1.size ≤ 140737488351232) ∧ ((Lit.int .i64 e_.2.1).wf = true) ∧ (Ok_Ty_Type e_.2.2)) ∧ (x.f_Base.length ≤ maxLen ∧ x.f_Base.length * 128 ≤ 140737488351232 ∧ ∀ e_ ∈ x.f_Base, Ok_Ty_Type e_) ∧ ((Lit.int .i64 x.f_Count).wf = true) := by rw [Ok_Ty_Type] at h; exact h
end Go.Ve.X
