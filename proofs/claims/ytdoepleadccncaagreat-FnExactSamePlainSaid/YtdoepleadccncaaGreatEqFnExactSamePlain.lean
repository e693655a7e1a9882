/- The equations of the functions that 'FnExactSamePlain' reaches (printed by plan.py): what each answers. No condition. -/
import Derived.Test.YtdoepleadccncaaGreatEnvFnExactSamePlain
namespace Go.Ve.X
open Go.Proofs Go.Ve Go.RowKit
set_option linter.unusedVariables false
set_option maxRecDepth 100000
theorem laws_FnExactSamePlain_eq (aA_Objects : List (Int × Int × Int × List (ByteArray × Int × ByteArray) × Ty_Type × List Int × List Int × List Int × List (Int × Int × Bool) × ByteArray × Int × ByteArray × List (ByteArray × Ty_Type × List Int × ByteArray) × Ty_Type × List Int × ByteArray × List (ByteArray × Int × List Int × List Int × List Int × List Int × List (List Int) × Int × List Int × List Int × List Int × List Int × List (List Int)))) (aB_Objects : List (Int × Int × Int × List (ByteArray × Int × ByteArray) × Ty_Type × List Int × List Int × List Int × List (Int × Int × Bool) × ByteArray × Int × ByteArray × List (ByteArray × Ty_Type × List Int × ByteArray) × Ty_Type × List Int × ByteArray × List (ByteArray × Int × List Int × List Int × List Int × List Int × List (List Int) × Int × List Int × List Int × List Int × List Int × List (List Int)))) :
    laws_FnExactSamePlain aA_Objects aB_Objects = (
      sbind (laws_szPlain aA_Objects 1048576) fun r1 =>
      sif (decide (r1 < 0)) (some true) <|
      sbind (laws_szPlain aB_Objects r1) fun r2 =>
      sif (decide (r2 < 0)) (some true) <|
      sbind (laws_toPlain aA_Objects) fun r3 =>
      sbind (laws_toPlain aB_Objects) fun r4 =>
      sbind (spec_SamePlain r3 r4) fun r5 =>
      sbind (laws_toPlain aA_Objects) fun r6 =>
      sbind (laws_toPlain aB_Objects) fun r7 =>
      sbind (impl_SamePlain r6 r7) fun r8 =>
      sif (!(r8 == r5)) (some false) <|
      sbind (laws_toPlain aA_Objects) fun r9 =>
      sbind (laws_eqPlain r6 r9) fun r10 =>
      sif (!r10) (some false) <|
      sbind (laws_toPlain aB_Objects) fun r11 =>
      sbind (laws_eqPlain r7 r11) fun r12 =>
      sif (!r12) (some false) (some true)) := sem_eq (f := 3) (m := 0) rfl (by kernel_rfl)
theorem laws_szPlain_eq (a_Objects : List (Int × Int × Int × List (ByteArray × Int × ByteArray) × Ty_Type × List Int × List Int × List Int × List (Int × Int × Bool) × ByteArray × Int × ByteArray × List (ByteArray × Ty_Type × List Int × ByteArray) × Ty_Type × List Int × ByteArray × List (ByteArray × Int × List Int × List Int × List Int × List Int × List (List Int) × Int × List Int × List Int × List Int × List Int × List (List Int)))) (left : Int) :
    laws_szPlain a_Objects left = (
      sbind (laws_szPlainObjectS a_Objects left) fun r1 =>
      sif (decide (r1 < 0)) (some (-1)) (some r1)) := sem_eq (f := 4) (m := 0) rfl (by kernel_rfl)
theorem laws_szPlainObjectS_eq (a : List (Int × Int × Int × List (ByteArray × Int × ByteArray) × Ty_Type × List Int × List Int × List Int × List (Int × Int × Bool) × ByteArray × Int × ByteArray × List (ByteArray × Ty_Type × List Int × ByteArray) × Ty_Type × List Int × ByteArray × List (ByteArray × Int × List Int × List Int × List Int × List Int × List (List Int) × Int × List Int × List Int × List Int × List Int × List (List Int)))) (left : Int) :
    laws_szPlainObjectS a left = (
      sif (decide (wi64 (left - (a.length : Int)) < 0)) (some (-1)) <|
      laws_szPlainObjectS_l5 a (wi64 (left - (a.length : Int))) 0) := sem_eq (f := 9) (m := 0) rfl (by kernel_rfl)
theorem laws_szPlainObjectS_l5_eq (a : List (Int × Int × Int × List (ByteArray × Int × ByteArray) × Ty_Type × List Int × List Int × List Int × List (Int × Int × Bool) × ByteArray × Int × ByteArray × List (ByteArray × Ty_Type × List Int × ByteArray) × Ty_Type × List Int × ByteArray × List (ByteArray × Int × List Int × List Int × List Int × List Int × List (List Int) × Int × List Int × List Int × List Int × List Int × List (List Int)))) (left : Int) (i : Int) :
    laws_szPlainObjectS_l5 a left i = (
      sif (decide (i < (a.length : Int)))
       (sbind (idx a i) fun x1 =>
        sbind (laws_szPlainObject x1.1 x1.2.1 x1.2.2.1 x1.2.2.2.1 x1.2.2.2.2.1.f_Kind x1.2.2.2.2.1.f_Size x1.2.2.2.2.1.f_Signed x1.2.2.2.2.1.f_Big x1.2.2.2.2.1.f_Names x1.2.2.2.2.1.f_Nums x1.2.2.2.2.1.f_Members x1.2.2.2.2.1.f_Base x1.2.2.2.2.1.f_Count x1.2.2.2.2.2.1 x1.2.2.2.2.2.2.1 x1.2.2.2.2.2.2.2.1 x1.2.2.2.2.2.2.2.2.1 x1.2.2.2.2.2.2.2.2.2.1 x1.2.2.2.2.2.2.2.2.2.2.1 x1.2.2.2.2.2.2.2.2.2.2.2.1 x1.2.2.2.2.2.2.2.2.2.2.2.2.1 x1.2.2.2.2.2.2.2.2.2.2.2.2.2.1.f_Kind x1.2.2.2.2.2.2.2.2.2.2.2.2.2.1.f_Size x1.2.2.2.2.2.2.2.2.2.2.2.2.2.1.f_Signed x1.2.2.2.2.2.2.2.2.2.2.2.2.2.1.f_Big x1.2.2.2.2.2.2.2.2.2.2.2.2.2.1.f_Names x1.2.2.2.2.2.2.2.2.2.2.2.2.2.1.f_Nums x1.2.2.2.2.2.2.2.2.2.2.2.2.2.1.f_Members x1.2.2.2.2.2.2.2.2.2.2.2.2.2.1.f_Base x1.2.2.2.2.2.2.2.2.2.2.2.2.2.1.f_Count x1.2.2.2.2.2.2.2.2.2.2.2.2.2.2.1 x1.2.2.2.2.2.2.2.2.2.2.2.2.2.2.2.1 x1.2.2.2.2.2.2.2.2.2.2.2.2.2.2.2.2 left) fun r2 =>
        sif (decide (r2 < 0)) (some (-1)) (laws_szPlainObjectS_l5 a r2 (wi64 (i + 1)))) (some left)) := seml_eq (f := 9) (m := 0) (l := 5) (by kernel_rfl)
theorem laws_szPlainObject_eq (a_Id : Int) (a_Kind : Int) (a_Refs : Int) (a_Links : List (ByteArray × Int × ByteArray)) (a_Set_Type_Kind : Int) (a_Set_Type_Size : Int) (a_Set_Type_Signed : Bool) (a_Set_Type_Big : Bool) (a_Set_Type_Names : List ByteArray) (a_Set_Type_Nums : List Int) (a_Set_Type_Members : List (ByteArray × Int × Ty_Type)) (a_Set_Type_Base : List Ty_Type) (a_Set_Type_Count : Int) (a_Set_Space_Dims : List Int) (a_Set_Space_Max : List Int) (a_Set_Chunk : List Int) (a_Set_Filters : List (Int × Int × Bool)) (a_Set_Fill : ByteArray) (a_Set_Index : Int) (a_Data : ByteArray) (a_Attrs : List (ByteArray × Ty_Type × List Int × ByteArray)) (a_Virtual_Type_Kind : Int) (a_Virtual_Type_Size : Int) (a_Virtual_Type_Signed : Bool) (a_Virtual_Type_Big : Bool) (a_Virtual_Type_Names : List ByteArray) (a_Virtual_Type_Nums : List Int) (a_Virtual_Type_Members : List (ByteArray × Int × Ty_Type)) (a_Virtual_Type_Base : List Ty_Type) (a_Virtual_Type_Count : Int) (a_Virtual_Dims : List Int) (a_Virtual_Fill : ByteArray) (a_Virtual_Maps : List (ByteArray × Int × List Int × List Int × List Int × List Int × List (List Int) × Int × List Int × List Int × List Int × List Int × List (List Int))) (left : Int) :
    laws_szPlainObject a_Id a_Kind a_Refs a_Links a_Set_Type_Kind a_Set_Type_Size a_Set_Type_Signed a_Set_Type_Big a_Set_Type_Names a_Set_Type_Nums a_Set_Type_Members a_Set_Type_Base a_Set_Type_Count a_Set_Space_Dims a_Set_Space_Max a_Set_Chunk a_Set_Filters a_Set_Fill a_Set_Index a_Data a_Attrs a_Virtual_Type_Kind a_Virtual_Type_Size a_Virtual_Type_Signed a_Virtual_Type_Big a_Virtual_Type_Names a_Virtual_Type_Nums a_Virtual_Type_Members a_Virtual_Type_Base a_Virtual_Type_Count a_Virtual_Dims a_Virtual_Fill a_Virtual_Maps left = (
      sbind (laws_szLinkS a_Links left) fun r1 =>
      sif (decide (r1 < 0)) (some (-1)) <|
      sbind (laws_szDataset a_Set_Type_Kind a_Set_Type_Size a_Set_Type_Signed a_Set_Type_Big a_Set_Type_Names a_Set_Type_Nums a_Set_Type_Members a_Set_Type_Base a_Set_Type_Count a_Set_Space_Dims a_Set_Space_Max a_Set_Chunk a_Set_Filters a_Set_Fill a_Set_Index r1) fun r2 =>
      sif (decide (r2 < 0)) (some (-1)) <|
      sif (decide (wi64 (r2 - (a_Data.size : Int)) < 0)) (some (-1)) <|
      sbind (laws_szAttributeS a_Attrs (wi64 (r2 - (a_Data.size : Int)))) fun r3 =>
      sif (decide (r3 < 0)) (some (-1)) <|
      sbind (laws_szVirtual a_Virtual_Type_Kind a_Virtual_Type_Size a_Virtual_Type_Signed a_Virtual_Type_Big a_Virtual_Type_Names a_Virtual_Type_Nums a_Virtual_Type_Members a_Virtual_Type_Base a_Virtual_Type_Count a_Virtual_Dims a_Virtual_Fill a_Virtual_Maps r3) fun r4 =>
      sif (decide (r4 < 0)) (some (-1)) (some r4)) := sem_eq (f := 15) (m := 0) rfl (by kernel_rfl)
theorem laws_szLinkS_eq (a : List (ByteArray × Int × ByteArray)) (left : Int) :
    laws_szLinkS a left = (
      sif (decide (wi64 (left - (a.length : Int)) < 0)) (some (-1)) <|
      laws_szLinkS_l5 a (wi64 (left - (a.length : Int))) 0) := sem_eq (f := 27) (m := 0) rfl (by kernel_rfl)
theorem laws_szLinkS_l5_eq (a : List (ByteArray × Int × ByteArray)) (left : Int) (i : Int) :
    laws_szLinkS_l5 a left i = (
      sif (decide (i < (a.length : Int)))
       (sbind (idx a i) fun x1 =>
        sbind (laws_szLink x1.1 x1.2.1 x1.2.2 left) fun r2 =>
        sif (decide (r2 < 0)) (some (-1)) (laws_szLinkS_l5 a r2 (wi64 (i + 1)))) (some left)) := seml_eq (f := 27) (m := 0) (l := 5) (by kernel_rfl)
theorem laws_szLink_eq (a_Name : ByteArray) (a_Target : Int) (a_Path : ByteArray) (left : Int) :
    laws_szLink a_Name a_Target a_Path left = (
      sif (decide (wi64 (left - (a_Name.size : Int)) < 0)) (some (-1)) <|
      sif (decide (wi64 ((wi64 (left - (a_Name.size : Int))) - (a_Path.size : Int)) < 0)) (some (-1)) <|
      some (wi64 ((wi64 (left - (a_Name.size : Int))) - (a_Path.size : Int)))) := sem_eq (f := 53) (m := 0) rfl (by kernel_rfl)
theorem laws_szDataset_eq (a_Type_Kind : Int) (a_Type_Size : Int) (a_Type_Signed : Bool) (a_Type_Big : Bool) (a_Type_Names : List ByteArray) (a_Type_Nums : List Int) (a_Type_Members : List (ByteArray × Int × Ty_Type)) (a_Type_Base : List Ty_Type) (a_Type_Count : Int) (a_Space_Dims : List Int) (a_Space_Max : List Int) (a_Chunk : List Int) (a_Filters : List (Int × Int × Bool)) (a_Fill : ByteArray) (a_Index : Int) (left : Int) :
    laws_szDataset a_Type_Kind a_Type_Size a_Type_Signed a_Type_Big a_Type_Names a_Type_Nums a_Type_Members a_Type_Base a_Type_Count a_Space_Dims a_Space_Max a_Chunk a_Filters a_Fill a_Index left = (
      sbind (laws_szType a_Type_Kind a_Type_Size a_Type_Signed a_Type_Big a_Type_Names a_Type_Nums a_Type_Members a_Type_Base a_Type_Count left) fun r1 =>
      sif (decide (r1 < 0)) (some (-1)) <|
      sbind (laws_szSpace a_Space_Dims a_Space_Max r1) fun r2 =>
      sif (decide (r2 < 0)) (some (-1)) <|
      sbind (laws_szInt64S a_Chunk r2) fun r3 =>
      sif (decide (r3 < 0)) (some (-1)) <|
      sbind (laws_szFilterS a_Filters r3) fun r4 =>
      sif (decide (r4 < 0)) (some (-1)) <|
      sif (decide (wi64 (r4 - (a_Fill.size : Int)) < 0)) (some (-1)) (some (wi64 (r4 - (a_Fill.size : Int))))) := sem_eq (f := 28) (m := 0) rfl (by kernel_rfl)
theorem laws_szType_eq (a_Kind : Int) (a_Size : Int) (a_Signed : Bool) (a_Big : Bool) (a_Names : List ByteArray) (a_Nums : List Int) (a_Members : List (ByteArray × Int × Ty_Type)) (a_Base : List Ty_Type) (a_Count : Int) (left : Int) :
    laws_szType a_Kind a_Size a_Signed a_Big a_Names a_Nums a_Members a_Base a_Count left = (
      sbind (laws_szStringS a_Names left) fun r1 =>
      sif (decide (r1 < 0)) (some (-1)) <|
      sbind (laws_szInt64S a_Nums r1) fun r2 =>
      sif (decide (r2 < 0)) (some (-1)) <|
      sbind (laws_szMemberS a_Members r2) fun r3 =>
      sif (decide (r3 < 0)) (some (-1)) <|
      sbind (laws_szTypeS a_Base r3) fun r4 =>
      sif (decide (r4 < 0)) (some (-1)) (some r4)) := sem_eq (f := 54) (m := 0) rfl (by kernel_rfl)
theorem laws_szStringS_eq (a : List ByteArray) (left : Int) :
    laws_szStringS a left = (
      sif (decide (wi64 (left - (a.length : Int)) < 0)) (some (-1)) <|
      laws_szStringS_l5 a (wi64 (left - (a.length : Int))) 0) := sem_eq (f := 82) (m := 0) rfl (by kernel_rfl)
theorem laws_szStringS_l5_eq (a : List ByteArray) (left : Int) (i : Int) :
    laws_szStringS_l5 a left i = (
      sif (decide (i < (a.length : Int)))
       (sbind (idx a i) fun x1 =>
        sif (decide (wi64 (left - (x1.size : Int)) < 0)) (some (-1)) <|
        laws_szStringS_l5 a (wi64 (left - (x1.size : Int))) (wi64 (i + 1))) (some left)) := seml_eq (f := 82) (m := 0) (l := 5) (by kernel_rfl)
theorem laws_szInt64S_eq (a : List Int) (left : Int) :
    laws_szInt64S a left = (
      sif (decide (wi64 (left - (a.length : Int)) < 0)) (some (-1)) (some (wi64 (left - (a.length : Int))))) := sem_eq (f := 56) (m := 0) rfl (by kernel_rfl)
theorem laws_szMemberS_eq (a : List (ByteArray × Int × Ty_Type)) (left : Int) :
    laws_szMemberS a left = (
      sif (decide (wi64 (left - (a.length : Int)) < 0)) (some (-1)) <|
      laws_szMemberS_l5 a (wi64 (left - (a.length : Int))) 0) := sem_eq (f := 83) (m := 0) rfl (by kernel_rfl)
theorem laws_szMemberS_l5_eq (a : List (ByteArray × Int × Ty_Type)) (left : Int) (i : Int) :
    laws_szMemberS_l5 a left i = (
      sif (decide (i < (a.length : Int)))
       (sbind (idx a i) fun x1 =>
        sbind (laws_szMember x1.1 x1.2.1 x1.2.2.f_Kind x1.2.2.f_Size x1.2.2.f_Signed x1.2.2.f_Big x1.2.2.f_Names x1.2.2.f_Nums x1.2.2.f_Members x1.2.2.f_Base x1.2.2.f_Count left) fun r2 =>
        sif (decide (r2 < 0)) (some (-1)) (laws_szMemberS_l5 a r2 (wi64 (i + 1)))) (some left)) := seml_eq (f := 83) (m := 0) (l := 5) (by kernel_rfl)
theorem laws_szMember_eq (a_Name : ByteArray) (a_Offset : Int) (a_Type_Kind : Int) (a_Type_Size : Int) (a_Type_Signed : Bool) (a_Type_Big : Bool) (a_Type_Names : List ByteArray) (a_Type_Nums : List Int) (a_Type_Members : List (ByteArray × Int × Ty_Type)) (a_Type_Base : List Ty_Type) (a_Type_Count : Int) (left : Int) :
    laws_szMember a_Name a_Offset a_Type_Kind a_Type_Size a_Type_Signed a_Type_Big a_Type_Names a_Type_Nums a_Type_Members a_Type_Base a_Type_Count left = (
      sif (decide (wi64 (left - (a_Name.size : Int)) < 0)) (some (-1)) <|
      sbind (laws_szType a_Type_Kind a_Type_Size a_Type_Signed a_Type_Big a_Type_Names a_Type_Nums a_Type_Members a_Type_Base a_Type_Count (wi64 (left - (a_Name.size : Int)))) fun r1 =>
      sif (decide (r1 < 0)) (some (-1)) (some r1)) := sem_eq (f := 103) (m := 0) rfl (by kernel_rfl)
theorem laws_szTypeS_eq (a : List Ty_Type) (left : Int) :
    laws_szTypeS a left = (
      sif (decide (wi64 (left - (a.length : Int)) < 0)) (some (-1)) <|
      laws_szTypeS_l5 a (wi64 (left - (a.length : Int))) 0) := sem_eq (f := 84) (m := 0) rfl (by kernel_rfl)
theorem laws_szTypeS_l5_eq (a : List Ty_Type) (left : Int) (i : Int) :
    laws_szTypeS_l5 a left i = (
      sif (decide (i < (a.length : Int)))
       (sbind (idx a i) fun x1 =>
        sbind (laws_szType x1.f_Kind x1.f_Size x1.f_Signed x1.f_Big x1.f_Names x1.f_Nums x1.f_Members x1.f_Base x1.f_Count left) fun r2 =>
        sif (decide (r2 < 0)) (some (-1)) (laws_szTypeS_l5 a r2 (wi64 (i + 1)))) (some left)) := seml_eq (f := 84) (m := 0) (l := 5) (by kernel_rfl)
theorem laws_szSpace_eq (a_Dims : List Int) (a_Max : List Int) (left : Int) :
    laws_szSpace a_Dims a_Max left = (
      sbind (laws_szInt64S a_Dims left) fun r1 =>
      sif (decide (r1 < 0)) (some (-1)) <|
      sbind (laws_szInt64S a_Max r1) fun r2 =>
      sif (decide (r2 < 0)) (some (-1)) (some r2)) := sem_eq (f := 55) (m := 0) rfl (by kernel_rfl)
theorem laws_szFilterS_eq (a : List (Int × Int × Bool)) (left : Int) :
    laws_szFilterS a left = (
      sif (decide (wi64 (left - (a.length : Int)) < 0)) (some (-1)) (some (wi64 (left - (a.length : Int))))) := sem_eq (f := 57) (m := 0) rfl (by kernel_rfl)
theorem laws_szAttributeS_eq (a : List (ByteArray × Ty_Type × List Int × ByteArray)) (left : Int) :
    laws_szAttributeS a left = (
      sif (decide (wi64 (left - (a.length : Int)) < 0)) (some (-1)) <|
      laws_szAttributeS_l5 a (wi64 (left - (a.length : Int))) 0) := sem_eq (f := 29) (m := 0) rfl (by kernel_rfl)
theorem laws_szAttributeS_l5_eq (a : List (ByteArray × Ty_Type × List Int × ByteArray)) (left : Int) (i : Int) :
    laws_szAttributeS_l5 a left i = (
      sif (decide (i < (a.length : Int)))
       (sbind (idx a i) fun x1 =>
        sbind (laws_szAttribute x1.1 x1.2.1.f_Kind x1.2.1.f_Size x1.2.1.f_Signed x1.2.1.f_Big x1.2.1.f_Names x1.2.1.f_Nums x1.2.1.f_Members x1.2.1.f_Base x1.2.1.f_Count x1.2.2.1 x1.2.2.2 left) fun r2 =>
        sif (decide (r2 < 0)) (some (-1)) (laws_szAttributeS_l5 a r2 (wi64 (i + 1)))) (some left)) := seml_eq (f := 29) (m := 0) (l := 5) (by kernel_rfl)
theorem laws_szAttribute_eq (a_Name : ByteArray) (a_Value_Type_Kind : Int) (a_Value_Type_Size : Int) (a_Value_Type_Signed : Bool) (a_Value_Type_Big : Bool) (a_Value_Type_Names : List ByteArray) (a_Value_Type_Nums : List Int) (a_Value_Type_Members : List (ByteArray × Int × Ty_Type)) (a_Value_Type_Base : List Ty_Type) (a_Value_Type_Count : Int) (a_Value_Dims : List Int) (a_Value_Data : ByteArray) (left : Int) :
    laws_szAttribute a_Name a_Value_Type_Kind a_Value_Type_Size a_Value_Type_Signed a_Value_Type_Big a_Value_Type_Names a_Value_Type_Nums a_Value_Type_Members a_Value_Type_Base a_Value_Type_Count a_Value_Dims a_Value_Data left = (
      sif (decide (wi64 (left - (a_Name.size : Int)) < 0)) (some (-1)) <|
      sbind (laws_szArray a_Value_Type_Kind a_Value_Type_Size a_Value_Type_Signed a_Value_Type_Big a_Value_Type_Names a_Value_Type_Nums a_Value_Type_Members a_Value_Type_Base a_Value_Type_Count a_Value_Dims a_Value_Data (wi64 (left - (a_Name.size : Int)))) fun r1 =>
      sif (decide (r1 < 0)) (some (-1)) (some r1)) := sem_eq (f := 58) (m := 0) rfl (by kernel_rfl)
theorem laws_szArray_eq (a_Type_Kind : Int) (a_Type_Size : Int) (a_Type_Signed : Bool) (a_Type_Big : Bool) (a_Type_Names : List ByteArray) (a_Type_Nums : List Int) (a_Type_Members : List (ByteArray × Int × Ty_Type)) (a_Type_Base : List Ty_Type) (a_Type_Count : Int) (a_Dims : List Int) (a_Data : ByteArray) (left : Int) :
    laws_szArray a_Type_Kind a_Type_Size a_Type_Signed a_Type_Big a_Type_Names a_Type_Nums a_Type_Members a_Type_Base a_Type_Count a_Dims a_Data left = (
      sbind (laws_szType a_Type_Kind a_Type_Size a_Type_Signed a_Type_Big a_Type_Names a_Type_Nums a_Type_Members a_Type_Base a_Type_Count left) fun r1 =>
      sif (decide (r1 < 0)) (some (-1)) <|
      sbind (laws_szInt64S a_Dims r1) fun r2 =>
      sif (decide (r2 < 0)) (some (-1)) <|
      sif (decide (wi64 (r2 - (a_Data.size : Int)) < 0)) (some (-1)) (some (wi64 (r2 - (a_Data.size : Int))))) := sem_eq (f := 85) (m := 0) rfl (by kernel_rfl)
theorem laws_szVirtual_eq (a_Type_Kind : Int) (a_Type_Size : Int) (a_Type_Signed : Bool) (a_Type_Big : Bool) (a_Type_Names : List ByteArray) (a_Type_Nums : List Int) (a_Type_Members : List (ByteArray × Int × Ty_Type)) (a_Type_Base : List Ty_Type) (a_Type_Count : Int) (a_Dims : List Int) (a_Fill : ByteArray) (a_Maps : List (ByteArray × Int × List Int × List Int × List Int × List Int × List (List Int) × Int × List Int × List Int × List Int × List Int × List (List Int))) (left : Int) :
    laws_szVirtual a_Type_Kind a_Type_Size a_Type_Signed a_Type_Big a_Type_Names a_Type_Nums a_Type_Members a_Type_Base a_Type_Count a_Dims a_Fill a_Maps left = (
      sbind (laws_szType a_Type_Kind a_Type_Size a_Type_Signed a_Type_Big a_Type_Names a_Type_Nums a_Type_Members a_Type_Base a_Type_Count left) fun r1 =>
      sif (decide (r1 < 0)) (some (-1)) <|
      sbind (laws_szInt64S a_Dims r1) fun r2 =>
      sif (decide (r2 < 0)) (some (-1)) <|
      sif (decide (wi64 (r2 - (a_Fill.size : Int)) < 0)) (some (-1)) <|
      sbind (laws_szMappingS a_Maps (wi64 (r2 - (a_Fill.size : Int)))) fun r3 =>
      sif (decide (r3 < 0)) (some (-1)) (some r3)) := sem_eq (f := 30) (m := 0) rfl (by kernel_rfl)
theorem laws_szMappingS_eq (a : List (ByteArray × Int × List Int × List Int × List Int × List Int × List (List Int) × Int × List Int × List Int × List Int × List Int × List (List Int))) (left : Int) :
    laws_szMappingS a left = (
      sif (decide (wi64 (left - (a.length : Int)) < 0)) (some (-1)) <|
      laws_szMappingS_l5 a (wi64 (left - (a.length : Int))) 0) := sem_eq (f := 59) (m := 0) rfl (by kernel_rfl)
theorem laws_szMappingS_l5_eq (a : List (ByteArray × Int × List Int × List Int × List Int × List Int × List (List Int) × Int × List Int × List Int × List Int × List Int × List (List Int))) (left : Int) (i : Int) :
    laws_szMappingS_l5 a left i = (
      sif (decide (i < (a.length : Int)))
       (sbind (idx a i) fun x1 =>
        sbind (laws_szMapping x1.1 x1.2.1 x1.2.2.1 x1.2.2.2.1 x1.2.2.2.2.1 x1.2.2.2.2.2.1 x1.2.2.2.2.2.2.1 x1.2.2.2.2.2.2.2.1 x1.2.2.2.2.2.2.2.2.1 x1.2.2.2.2.2.2.2.2.2.1 x1.2.2.2.2.2.2.2.2.2.2.1 x1.2.2.2.2.2.2.2.2.2.2.2.1 x1.2.2.2.2.2.2.2.2.2.2.2.2 left) fun r2 =>
        sif (decide (r2 < 0)) (some (-1)) (laws_szMappingS_l5 a r2 (wi64 (i + 1)))) (some left)) := seml_eq (f := 59) (m := 0) (l := 5) (by kernel_rfl)
theorem laws_szMapping_eq (a_Path : ByteArray) (a_Source_Kind : Int) (a_Source_Start : List Int) (a_Source_Stride : List Int) (a_Source_Count : List Int) (a_Source_Block : List Int) (a_Source_Points : List (List Int)) (a_Target_Kind : Int) (a_Target_Start : List Int) (a_Target_Stride : List Int) (a_Target_Count : List Int) (a_Target_Block : List Int) (a_Target_Points : List (List Int)) (left : Int) :
    laws_szMapping a_Path a_Source_Kind a_Source_Start a_Source_Stride a_Source_Count a_Source_Block a_Source_Points a_Target_Kind a_Target_Start a_Target_Stride a_Target_Count a_Target_Block a_Target_Points left = (
      sif (decide (wi64 (left - (a_Path.size : Int)) < 0)) (some (-1)) <|
      sbind (laws_szSelection a_Source_Kind a_Source_Start a_Source_Stride a_Source_Count a_Source_Block a_Source_Points (wi64 (left - (a_Path.size : Int)))) fun r1 =>
      sif (decide (r1 < 0)) (some (-1)) <|
      sbind (laws_szSelection a_Target_Kind a_Target_Start a_Target_Stride a_Target_Count a_Target_Block a_Target_Points r1) fun r2 =>
      sif (decide (r2 < 0)) (some (-1)) (some r2)) := sem_eq (f := 86) (m := 0) rfl (by kernel_rfl)
theorem laws_szSelection_eq (a_Kind : Int) (a_Start : List Int) (a_Stride : List Int) (a_Count : List Int) (a_Block : List Int) (a_Points : List (List Int)) (left : Int) :
    laws_szSelection a_Kind a_Start a_Stride a_Count a_Block a_Points left = (
      sbind (laws_szInt64S a_Start left) fun r1 =>
      sif (decide (r1 < 0)) (some (-1)) <|
      sbind (laws_szInt64S a_Stride r1) fun r2 =>
      sif (decide (r2 < 0)) (some (-1)) <|
      sbind (laws_szInt64S a_Count r2) fun r3 =>
      sif (decide (r3 < 0)) (some (-1)) <|
      sbind (laws_szInt64S a_Block r3) fun r4 =>
      sif (decide (r4 < 0)) (some (-1)) <|
      sbind (laws_szPointS a_Points r4) fun r5 =>
      sif (decide (r5 < 0)) (some (-1)) (some r5)) := sem_eq (f := 104) (m := 0) rfl (by kernel_rfl)
theorem laws_szPointS_eq (a : List (List Int)) (left : Int) :
    laws_szPointS a left = (
      sif (decide (wi64 (left - (a.length : Int)) < 0)) (some (-1)) <|
      laws_szPointS_l5 a (wi64 (left - (a.length : Int))) 0) := sem_eq (f := 109) (m := 0) rfl (by kernel_rfl)
theorem laws_szPointS_l5_eq (a : List (List Int)) (left : Int) (i : Int) :
    laws_szPointS_l5 a left i = (
      sif (decide (i < (a.length : Int)))
       (sbind (idx a i) fun x1 =>
        sbind (laws_szPoint x1 left) fun r2 =>
        sif (decide (r2 < 0)) (some (-1)) (laws_szPointS_l5 a r2 (wi64 (i + 1)))) (some left)) := seml_eq (f := 109) (m := 0) (l := 5) (by kernel_rfl)
theorem laws_szPoint_eq (a_At : List Int) (left : Int) :
    laws_szPoint a_At left = (
      sbind (laws_szInt64S a_At left) fun r1 =>
      sif (decide (r1 < 0)) (some (-1)) (some r1)) := sem_eq (f := 112) (m := 0) rfl (by kernel_rfl)
theorem laws_toPlain_eq (a_Objects : List (Int × Int × Int × List (ByteArray × Int × ByteArray) × Ty_Type × List Int × List Int × List Int × List (Int × Int × Bool) × ByteArray × Int × ByteArray × List (ByteArray × Ty_Type × List Int × ByteArray) × Ty_Type × List Int × ByteArray × List (ByteArray × Int × List Int × List Int × List Int × List Int × List (List Int) × Int × List Int × List Int × List Int × List Int × List (List Int)))) :
    laws_toPlain a_Objects = (
      sbind (laws_toPlainObjectS a_Objects) fun r1 =>
      some r1) := sem_eq (f := 6) (m := 0) rfl (by kernel_rfl)
theorem laws_toPlainObjectS_eq (a : List (Int × Int × Int × List (ByteArray × Int × ByteArray) × Ty_Type × List Int × List Int × List Int × List (Int × Int × Bool) × ByteArray × Int × ByteArray × List (ByteArray × Ty_Type × List Int × ByteArray) × Ty_Type × List Int × ByteArray × List (ByteArray × Int × List Int × List Int × List Int × List Int × List (List Int) × Int × List Int × List Int × List Int × List Int × List (List Int)))) :
    laws_toPlainObjectS a = (
      sif (le3 0 (a.length : Int) (a.length : Int) && room a.length 528)
       (laws_toPlainObjectS_l3 a 0 (List.replicate a.length ((0, 0, 0, ([] : List (ByteArray × Int × ByteArray)), (Ty_Type.mk 0 0 false false ([] : List ByteArray) ([] : List Int) ([] : List (ByteArray × Int × Ty_Type)) ([] : List Ty_Type) 0), ([] : List Int), ([] : List Int), ([] : List Int), ([] : List (Int × Int × Bool)), bs [], 0, bs [], ([] : List (ByteArray × Ty_Type × List Int × ByteArray)), (Ty_Type.mk 0 0 false false ([] : List ByteArray) ([] : List Int) ([] : List (ByteArray × Int × Ty_Type)) ([] : List Ty_Type) 0), ([] : List Int), bs [], ([] : List (ByteArray × Int × List Int × List Int × List Int × List Int × List (List Int) × Int × List Int × List Int × List Int × List Int × List (List Int)))) : Int × Int × Int × List (ByteArray × Int × ByteArray) × Ty_Type × List Int × List Int × List Int × List (Int × Int × Bool) × ByteArray × Int × ByteArray × List (ByteArray × Ty_Type × List Int × ByteArray) × Ty_Type × List Int × ByteArray × List (ByteArray × Int × List Int × List Int × List Int × List Int × List (List Int) × Int × List Int × List Int × List Int × List Int × List (List Int))))) (none)) := sem_eq (f := 11) (m := 0) rfl (by kernel_rfl)
theorem laws_toPlainObjectS_l3_eq (a : List (Int × Int × Int × List (ByteArray × Int × ByteArray) × Ty_Type × List Int × List Int × List Int × List (Int × Int × Bool) × ByteArray × Int × ByteArray × List (ByteArray × Ty_Type × List Int × ByteArray) × Ty_Type × List Int × ByteArray × List (ByteArray × Int × List Int × List Int × List Int × List Int × List (List Int) × Int × List Int × List Int × List Int × List Int × List (List Int)))) (i : Int) (out : List (Int × Int × Int × List (ByteArray × Int × ByteArray) × Ty_Type × List Int × List Int × List Int × List (Int × Int × Bool) × ByteArray × Int × ByteArray × List (ByteArray × Ty_Type × List Int × ByteArray) × Ty_Type × List Int × ByteArray × List (ByteArray × Int × List Int × List Int × List Int × List Int × List (List Int) × Int × List Int × List Int × List Int × List Int × List (List Int)))) :
    laws_toPlainObjectS_l3 a i out = (
      sif (decide (i < (a.length : Int)))
       (sbind (idx a i) fun x1 =>
        sbind (laws_toPlainObject x1.1 x1.2.1 x1.2.2.1 x1.2.2.2.1 x1.2.2.2.2.1.f_Kind x1.2.2.2.2.1.f_Size x1.2.2.2.2.1.f_Signed x1.2.2.2.2.1.f_Big x1.2.2.2.2.1.f_Names x1.2.2.2.2.1.f_Nums x1.2.2.2.2.1.f_Members x1.2.2.2.2.1.f_Base x1.2.2.2.2.1.f_Count x1.2.2.2.2.2.1 x1.2.2.2.2.2.2.1 x1.2.2.2.2.2.2.2.1 x1.2.2.2.2.2.2.2.2.1 x1.2.2.2.2.2.2.2.2.2.1 x1.2.2.2.2.2.2.2.2.2.2.1 x1.2.2.2.2.2.2.2.2.2.2.2.1 x1.2.2.2.2.2.2.2.2.2.2.2.2.1 x1.2.2.2.2.2.2.2.2.2.2.2.2.2.1.f_Kind x1.2.2.2.2.2.2.2.2.2.2.2.2.2.1.f_Size x1.2.2.2.2.2.2.2.2.2.2.2.2.2.1.f_Signed x1.2.2.2.2.2.2.2.2.2.2.2.2.2.1.f_Big x1.2.2.2.2.2.2.2.2.2.2.2.2.2.1.f_Names x1.2.2.2.2.2.2.2.2.2.2.2.2.2.1.f_Nums x1.2.2.2.2.2.2.2.2.2.2.2.2.2.1.f_Members x1.2.2.2.2.2.2.2.2.2.2.2.2.2.1.f_Base x1.2.2.2.2.2.2.2.2.2.2.2.2.2.1.f_Count x1.2.2.2.2.2.2.2.2.2.2.2.2.2.2.1 x1.2.2.2.2.2.2.2.2.2.2.2.2.2.2.2.1 x1.2.2.2.2.2.2.2.2.2.2.2.2.2.2.2.2) fun r2 =>
        sif (lt3 0 i (out.length : Int))
         (laws_toPlainObjectS_l3 a (wi64 (i + 1)) (out.set i.toNat (r2.1, r2.2.1, r2.2.2.1, r2.2.2.2.2.2.2.2.2.2.2.2.2.2.2.2.2.2.1, (Ty_Type.mk r2.2.2.2.1 r2.2.2.2.2.1 r2.2.2.2.2.2.1 r2.2.2.2.2.2.2.1 r2.2.2.2.2.2.2.2.2.2.2.2.2.2.2.2.2.2.2.1 r2.2.2.2.2.2.2.2.2.2.2.2.2.2.2.2.2.2.2.2.1 r2.2.2.2.2.2.2.2.2.2.2.2.2.2.2.2.2.2.2.2.2.1 r2.2.2.2.2.2.2.2.2.2.2.2.2.2.2.2.2.2.2.2.2.2.1 r2.2.2.2.2.2.2.2.1), r2.2.2.2.2.2.2.2.2.2.2.2.2.2.2.2.2.2.2.2.2.2.2.1, r2.2.2.2.2.2.2.2.2.2.2.2.2.2.2.2.2.2.2.2.2.2.2.2.1, r2.2.2.2.2.2.2.2.2.2.2.2.2.2.2.2.2.2.2.2.2.2.2.2.2.1, r2.2.2.2.2.2.2.2.2.2.2.2.2.2.2.2.2.2.2.2.2.2.2.2.2.2.1, r2.2.2.2.2.2.2.2.2.1, r2.2.2.2.2.2.2.2.2.2.1, r2.2.2.2.2.2.2.2.2.2.2.1, r2.2.2.2.2.2.2.2.2.2.2.2.2.2.2.2.2.2.2.2.2.2.2.2.2.2.2.1, (Ty_Type.mk r2.2.2.2.2.2.2.2.2.2.2.2.1 r2.2.2.2.2.2.2.2.2.2.2.2.2.1 r2.2.2.2.2.2.2.2.2.2.2.2.2.2.1 r2.2.2.2.2.2.2.2.2.2.2.2.2.2.2.1 r2.2.2.2.2.2.2.2.2.2.2.2.2.2.2.2.2.2.2.2.2.2.2.2.2.2.2.2.1 r2.2.2.2.2.2.2.2.2.2.2.2.2.2.2.2.2.2.2.2.2.2.2.2.2.2.2.2.2.1 r2.2.2.2.2.2.2.2.2.2.2.2.2.2.2.2.2.2.2.2.2.2.2.2.2.2.2.2.2.2.1 r2.2.2.2.2.2.2.2.2.2.2.2.2.2.2.2.2.2.2.2.2.2.2.2.2.2.2.2.2.2.2.1 r2.2.2.2.2.2.2.2.2.2.2.2.2.2.2.2.1), r2.2.2.2.2.2.2.2.2.2.2.2.2.2.2.2.2.2.2.2.2.2.2.2.2.2.2.2.2.2.2.2.1, r2.2.2.2.2.2.2.2.2.2.2.2.2.2.2.2.2.1, r2.2.2.2.2.2.2.2.2.2.2.2.2.2.2.2.2.2.2.2.2.2.2.2.2.2.2.2.2.2.2.2.2))) (none)) (some out)) := seml_eq (f := 11) (m := 0) (l := 3) (by kernel_rfl)
theorem laws_toPlainObject_eq (a_Id : Int) (a_Kind : Int) (a_Refs : Int) (a_Links : List (ByteArray × Int × ByteArray)) (a_Set_Type_Kind : Int) (a_Set_Type_Size : Int) (a_Set_Type_Signed : Bool) (a_Set_Type_Big : Bool) (a_Set_Type_Names : List ByteArray) (a_Set_Type_Nums : List Int) (a_Set_Type_Members : List (ByteArray × Int × Ty_Type)) (a_Set_Type_Base : List Ty_Type) (a_Set_Type_Count : Int) (a_Set_Space_Dims : List Int) (a_Set_Space_Max : List Int) (a_Set_Chunk : List Int) (a_Set_Filters : List (Int × Int × Bool)) (a_Set_Fill : ByteArray) (a_Set_Index : Int) (a_Data : ByteArray) (a_Attrs : List (ByteArray × Ty_Type × List Int × ByteArray)) (a_Virtual_Type_Kind : Int) (a_Virtual_Type_Size : Int) (a_Virtual_Type_Signed : Bool) (a_Virtual_Type_Big : Bool) (a_Virtual_Type_Names : List ByteArray) (a_Virtual_Type_Nums : List Int) (a_Virtual_Type_Members : List (ByteArray × Int × Ty_Type)) (a_Virtual_Type_Base : List Ty_Type) (a_Virtual_Type_Count : Int) (a_Virtual_Dims : List Int) (a_Virtual_Fill : ByteArray) (a_Virtual_Maps : List (ByteArray × Int × List Int × List Int × List Int × List Int × List (List Int) × Int × List Int × List Int × List Int × List Int × List (List Int))) :
    laws_toPlainObject a_Id a_Kind a_Refs a_Links a_Set_Type_Kind a_Set_Type_Size a_Set_Type_Signed a_Set_Type_Big a_Set_Type_Names a_Set_Type_Nums a_Set_Type_Members a_Set_Type_Base a_Set_Type_Count a_Set_Space_Dims a_Set_Space_Max a_Set_Chunk a_Set_Filters a_Set_Fill a_Set_Index a_Data a_Attrs a_Virtual_Type_Kind a_Virtual_Type_Size a_Virtual_Type_Signed a_Virtual_Type_Big a_Virtual_Type_Names a_Virtual_Type_Nums a_Virtual_Type_Members a_Virtual_Type_Base a_Virtual_Type_Count a_Virtual_Dims a_Virtual_Fill a_Virtual_Maps = (
      sbind (laws_toLinkS a_Links) fun r1 =>
      sbind (laws_toDataset a_Set_Type_Kind a_Set_Type_Size a_Set_Type_Signed a_Set_Type_Big a_Set_Type_Names a_Set_Type_Nums a_Set_Type_Members a_Set_Type_Base a_Set_Type_Count a_Set_Space_Dims a_Set_Space_Max a_Set_Chunk a_Set_Filters a_Set_Fill a_Set_Index) fun r2 =>
      sbind (laws_toAttributeS a_Attrs) fun r3 =>
      sbind (laws_toVirtual a_Virtual_Type_Kind a_Virtual_Type_Size a_Virtual_Type_Signed a_Virtual_Type_Big a_Virtual_Type_Names a_Virtual_Type_Nums a_Virtual_Type_Members a_Virtual_Type_Base a_Virtual_Type_Count a_Virtual_Dims a_Virtual_Fill a_Virtual_Maps) fun r4 =>
      some (a_Id, a_Kind, a_Refs, r2.1, r2.2.1, r2.2.2.1, r2.2.2.2.1, r2.2.2.2.2.1, r2.2.2.2.2.2.1, r2.2.2.2.2.2.2.1, a_Data, r4.1, r4.2.1, r4.2.2.1, r4.2.2.2.1, r4.2.2.2.2.1, r4.2.2.2.2.2.1, r1, r2.2.2.2.2.2.2.2.1, r2.2.2.2.2.2.2.2.2.1, r2.2.2.2.2.2.2.2.2.2.1, r2.2.2.2.2.2.2.2.2.2.2.1, r2.2.2.2.2.2.2.2.2.2.2.2.1, r2.2.2.2.2.2.2.2.2.2.2.2.2.1, r2.2.2.2.2.2.2.2.2.2.2.2.2.2.1, r2.2.2.2.2.2.2.2.2.2.2.2.2.2.2, r3, r4.2.2.2.2.2.2.1, r4.2.2.2.2.2.2.2.1, r4.2.2.2.2.2.2.2.2.1, r4.2.2.2.2.2.2.2.2.2.1, r4.2.2.2.2.2.2.2.2.2.2.1, r4.2.2.2.2.2.2.2.2.2.2.2)) := sem_eq (f := 20) (m := 0) rfl (by kernel_rfl)
theorem laws_toLinkS_eq (a : List (ByteArray × Int × ByteArray)) :
    laws_toLinkS a = (
      sif (le3 0 (a.length : Int) (a.length : Int) && room a.length 40)
       (laws_toLinkS_l3 a 0 (List.replicate a.length ((bs [], 0, bs []) : ByteArray × Int × ByteArray))) (none)) := sem_eq (f := 38) (m := 0) rfl (by kernel_rfl)
theorem laws_toLinkS_l3_eq (a : List (ByteArray × Int × ByteArray)) (i : Int) (out : List (ByteArray × Int × ByteArray)) :
    laws_toLinkS_l3 a i out = (
      sif (decide (i < (a.length : Int)))
       (sbind (idx a i) fun x1 =>
        sbind (laws_toLink x1.1 x1.2.1 x1.2.2) fun r2 =>
        sif (lt3 0 i (out.length : Int)) (laws_toLinkS_l3 a (wi64 (i + 1)) (out.set i.toNat (r2.1, r2.2.1, r2.2.2))) (none)) (some out)) := seml_eq (f := 38) (m := 0) (l := 3) (by kernel_rfl)
theorem laws_toLink_eq (a_Name : ByteArray) (a_Target : Int) (a_Path : ByteArray) :
    laws_toLink a_Name a_Target a_Path = (
      some (a_Name, a_Target, a_Path)) := sem_eq (f := 63) (m := 0) rfl (by kernel_rfl)
theorem laws_toDataset_eq (a_Type_Kind : Int) (a_Type_Size : Int) (a_Type_Signed : Bool) (a_Type_Big : Bool) (a_Type_Names : List ByteArray) (a_Type_Nums : List Int) (a_Type_Members : List (ByteArray × Int × Ty_Type)) (a_Type_Base : List Ty_Type) (a_Type_Count : Int) (a_Space_Dims : List Int) (a_Space_Max : List Int) (a_Chunk : List Int) (a_Filters : List (Int × Int × Bool)) (a_Fill : ByteArray) (a_Index : Int) :
    laws_toDataset a_Type_Kind a_Type_Size a_Type_Signed a_Type_Big a_Type_Names a_Type_Nums a_Type_Members a_Type_Base a_Type_Count a_Space_Dims a_Space_Max a_Chunk a_Filters a_Fill a_Index = (
      sbind (laws_toType a_Type_Kind a_Type_Size a_Type_Signed a_Type_Big a_Type_Names a_Type_Nums a_Type_Members a_Type_Base a_Type_Count) fun r1 =>
      sbind (laws_toSpace a_Space_Dims a_Space_Max) fun r2 =>
      sbind (laws_toInt64S a_Chunk) fun r3 =>
      sbind (laws_toFilterS a_Filters) fun r4 =>
      some (r1.1, r1.2.1, r1.2.2.1, r1.2.2.2.1, r1.2.2.2.2.1, a_Fill, a_Index, r1.2.2.2.2.2.1, r1.2.2.2.2.2.2.1, r1.2.2.2.2.2.2.2.1, r1.2.2.2.2.2.2.2.2, r2.1, r2.2, r3, r4)) := sem_eq (f := 39) (m := 0) rfl (by kernel_rfl)
theorem laws_toType_eq (a_Kind : Int) (a_Size : Int) (a_Signed : Bool) (a_Big : Bool) (a_Names : List ByteArray) (a_Nums : List Int) (a_Members : List (ByteArray × Int × Ty_Type)) (a_Base : List Ty_Type) (a_Count : Int) :
    laws_toType a_Kind a_Size a_Signed a_Big a_Names a_Nums a_Members a_Base a_Count = (
      sbind (laws_toStringS a_Names) fun r1 =>
      sbind (laws_toInt64S a_Nums) fun r2 =>
      sbind (laws_toMemberS a_Members) fun r3 =>
      sbind (laws_toTypeS a_Base) fun r4 =>
      some (a_Kind, a_Size, a_Signed, a_Big, a_Count, r1, r2, r3, r4)) := sem_eq (f := 64) (m := 0) rfl (by kernel_rfl)
theorem laws_toStringS_eq (a : List ByteArray) :
    laws_toStringS a = (
      sif (le3 0 (a.length : Int) (a.length : Int) && room a.length 16) (laws_toStringS_l3 a 0 (List.replicate a.length (bs [] : ByteArray))) (none)) := sem_eq (f := 87) (m := 0) rfl (by kernel_rfl)
theorem laws_toStringS_l3_eq (a : List ByteArray) (i : Int) (out : List ByteArray) :
    laws_toStringS_l3 a i out = (
      sif (decide (i < (a.length : Int)))
       (sbind (idx a i) fun x1 =>
        sif (lt3 0 i (out.length : Int)) (laws_toStringS_l3 a (wi64 (i + 1)) (out.set i.toNat x1)) (none)) (some out)) := seml_eq (f := 87) (m := 0) (l := 3) (by kernel_rfl)
theorem laws_toInt64S_eq (a : List Int) :
    laws_toInt64S a = (
      sif (le3 0 (a.length : Int) (a.length : Int) && room a.length 8) (laws_toInt64S_l3 a 0 (List.replicate a.length (0 : Int))) (none)) := sem_eq (f := 66) (m := 0) rfl (by kernel_rfl)
theorem laws_toInt64S_l3_eq (a : List Int) (i : Int) (out : List Int) :
    laws_toInt64S_l3 a i out = (
      sif (decide (i < (a.length : Int)))
       (sbind (idx a i) fun x1 =>
        sif (lt3 0 i (out.length : Int)) (laws_toInt64S_l3 a (wi64 (i + 1)) (out.set i.toNat x1)) (none)) (some out)) := seml_eq (f := 66) (m := 0) (l := 3) (by kernel_rfl)
theorem laws_toMemberS_eq (a : List (ByteArray × Int × Ty_Type)) :
    laws_toMemberS a = (
      sif (le3 0 (a.length : Int) (a.length : Int) && room a.length 152)
       (laws_toMemberS_l3 a 0 (List.replicate a.length ((bs [], 0, (Ty_Type.mk 0 0 false false ([] : List ByteArray) ([] : List Int) ([] : List (ByteArray × Int × Ty_Type)) ([] : List Ty_Type) 0)) : ByteArray × Int × Ty_Type))) (none)) := sem_eq (f := 88) (m := 0) rfl (by kernel_rfl)
theorem laws_toMemberS_l3_eq (a : List (ByteArray × Int × Ty_Type)) (i : Int) (out : List (ByteArray × Int × Ty_Type)) :
    laws_toMemberS_l3 a i out = (
      sif (decide (i < (a.length : Int)))
       (sbind (idx a i) fun x1 =>
        sbind (laws_toMember x1.1 x1.2.1 x1.2.2.f_Kind x1.2.2.f_Size x1.2.2.f_Signed x1.2.2.f_Big x1.2.2.f_Names x1.2.2.f_Nums x1.2.2.f_Members x1.2.2.f_Base x1.2.2.f_Count) fun r2 =>
        sif (lt3 0 i (out.length : Int))
         (laws_toMemberS_l3 a (wi64 (i + 1)) (out.set i.toNat (r2.1, r2.2.1, (Ty_Type.mk r2.2.2.1 r2.2.2.2.1 r2.2.2.2.2.1 r2.2.2.2.2.2.1 r2.2.2.2.2.2.2.2.1 r2.2.2.2.2.2.2.2.2.1 r2.2.2.2.2.2.2.2.2.2.1 r2.2.2.2.2.2.2.2.2.2.2 r2.2.2.2.2.2.2.1)))) (none)) (some out)) := seml_eq (f := 88) (m := 0) (l := 3) (by kernel_rfl)
theorem laws_toMember_eq (a_Name : ByteArray) (a_Offset : Int) (a_Type_Kind : Int) (a_Type_Size : Int) (a_Type_Signed : Bool) (a_Type_Big : Bool) (a_Type_Names : List ByteArray) (a_Type_Nums : List Int) (a_Type_Members : List (ByteArray × Int × Ty_Type)) (a_Type_Base : List Ty_Type) (a_Type_Count : Int) :
    laws_toMember a_Name a_Offset a_Type_Kind a_Type_Size a_Type_Signed a_Type_Big a_Type_Names a_Type_Nums a_Type_Members a_Type_Base a_Type_Count = (
      sbind (laws_toType a_Type_Kind a_Type_Size a_Type_Signed a_Type_Big a_Type_Names a_Type_Nums a_Type_Members a_Type_Base a_Type_Count) fun r1 =>
      some (a_Name, a_Offset, r1.1, r1.2.1, r1.2.2.1, r1.2.2.2.1, r1.2.2.2.2.1, r1.2.2.2.2.2.1, r1.2.2.2.2.2.2.1, r1.2.2.2.2.2.2.2.1, r1.2.2.2.2.2.2.2.2)) := sem_eq (f := 105) (m := 0) rfl (by kernel_rfl)
theorem laws_toTypeS_eq (a : List Ty_Type) :
    laws_toTypeS a = (
      sif (le3 0 (a.length : Int) (a.length : Int) && room a.length 128)
       (laws_toTypeS_l3 a 0 (List.replicate a.length ((Ty_Type.mk 0 0 false false ([] : List ByteArray) ([] : List Int) ([] : List (ByteArray × Int × Ty_Type)) ([] : List Ty_Type) 0) : Ty_Type))) (none)) := sem_eq (f := 89) (m := 0) rfl (by kernel_rfl)
theorem laws_toTypeS_l3_eq (a : List Ty_Type) (i : Int) (out : List Ty_Type) :
    laws_toTypeS_l3 a i out = (
      sif (decide (i < (a.length : Int)))
       (sbind (idx a i) fun x1 =>
        sbind (laws_toType x1.f_Kind x1.f_Size x1.f_Signed x1.f_Big x1.f_Names x1.f_Nums x1.f_Members x1.f_Base x1.f_Count) fun r2 =>
        sif (lt3 0 i (out.length : Int))
         (laws_toTypeS_l3 a (wi64 (i + 1)) (out.set i.toNat (Ty_Type.mk r2.1 r2.2.1 r2.2.2.1 r2.2.2.2.1 r2.2.2.2.2.2.1 r2.2.2.2.2.2.2.1 r2.2.2.2.2.2.2.2.1 r2.2.2.2.2.2.2.2.2 r2.2.2.2.2.1))) (none)) (some out)) := seml_eq (f := 89) (m := 0) (l := 3) (by kernel_rfl)
theorem laws_toSpace_eq (a_Dims : List Int) (a_Max : List Int) :
    laws_toSpace a_Dims a_Max = (
      sbind (laws_toInt64S a_Dims) fun r1 =>
      sbind (laws_toInt64S a_Max) fun r2 =>
      some (r1, r2)) := sem_eq (f := 65) (m := 0) rfl (by kernel_rfl)
theorem laws_toFilterS_eq (a : List (Int × Int × Bool)) :
    laws_toFilterS a = (
      sif (le3 0 (a.length : Int) (a.length : Int) && room a.length 24) (laws_toFilterS_l3 a 0 (List.replicate a.length ((0, 0, false) : Int × Int × Bool))) (none)) := sem_eq (f := 67) (m := 0) rfl (by kernel_rfl)
theorem laws_toFilterS_l3_eq (a : List (Int × Int × Bool)) (i : Int) (out : List (Int × Int × Bool)) :
    laws_toFilterS_l3 a i out = (
      sif (decide (i < (a.length : Int)))
       (sbind (idx a i) fun x1 =>
        sbind (laws_toFilter x1.1 x1.2.1 x1.2.2) fun r2 =>
        sif (lt3 0 i (out.length : Int)) (laws_toFilterS_l3 a (wi64 (i + 1)) (out.set i.toNat (r2.1, r2.2.1, r2.2.2))) (none)) (some out)) := seml_eq (f := 67) (m := 0) (l := 3) (by kernel_rfl)
theorem laws_toFilter_eq (a_Kind : Int) (a_Param : Int) (a_Optional : Bool) :
    laws_toFilter a_Kind a_Param a_Optional = (
      some (a_Kind, a_Param, a_Optional)) := sem_eq (f := 90) (m := 0) rfl (by kernel_rfl)
theorem laws_toAttributeS_eq (a : List (ByteArray × Ty_Type × List Int × ByteArray)) :
    laws_toAttributeS a = (
      sif (le3 0 (a.length : Int) (a.length : Int) && room a.length 184)
       (laws_toAttributeS_l3 a 0 (List.replicate a.length ((bs [], (Ty_Type.mk 0 0 false false ([] : List ByteArray) ([] : List Int) ([] : List (ByteArray × Int × Ty_Type)) ([] : List Ty_Type) 0), ([] : List Int), bs []) : ByteArray × Ty_Type × List Int × ByteArray))) (none)) := sem_eq (f := 40) (m := 0) rfl (by kernel_rfl)
theorem laws_toAttributeS_l3_eq (a : List (ByteArray × Ty_Type × List Int × ByteArray)) (i : Int) (out : List (ByteArray × Ty_Type × List Int × ByteArray)) :
    laws_toAttributeS_l3 a i out = (
      sif (decide (i < (a.length : Int)))
       (sbind (idx a i) fun x1 =>
        sbind (laws_toAttribute x1.1 x1.2.1.f_Kind x1.2.1.f_Size x1.2.1.f_Signed x1.2.1.f_Big x1.2.1.f_Names x1.2.1.f_Nums x1.2.1.f_Members x1.2.1.f_Base x1.2.1.f_Count x1.2.2.1 x1.2.2.2) fun r2 =>
        sif (lt3 0 i (out.length : Int))
         (laws_toAttributeS_l3 a (wi64 (i + 1)) (out.set i.toNat (r2.1, (Ty_Type.mk r2.2.1 r2.2.2.1 r2.2.2.2.1 r2.2.2.2.2.1 r2.2.2.2.2.2.2.2.1 r2.2.2.2.2.2.2.2.2.1 r2.2.2.2.2.2.2.2.2.2.1 r2.2.2.2.2.2.2.2.2.2.2.1 r2.2.2.2.2.2.1), r2.2.2.2.2.2.2.2.2.2.2.2, r2.2.2.2.2.2.2.1))) (none)) (some out)) := seml_eq (f := 40) (m := 0) (l := 3) (by kernel_rfl)
theorem laws_toAttribute_eq (a_Name : ByteArray) (a_Value_Type_Kind : Int) (a_Value_Type_Size : Int) (a_Value_Type_Signed : Bool) (a_Value_Type_Big : Bool) (a_Value_Type_Names : List ByteArray) (a_Value_Type_Nums : List Int) (a_Value_Type_Members : List (ByteArray × Int × Ty_Type)) (a_Value_Type_Base : List Ty_Type) (a_Value_Type_Count : Int) (a_Value_Dims : List Int) (a_Value_Data : ByteArray) :
    laws_toAttribute a_Name a_Value_Type_Kind a_Value_Type_Size a_Value_Type_Signed a_Value_Type_Big a_Value_Type_Names a_Value_Type_Nums a_Value_Type_Members a_Value_Type_Base a_Value_Type_Count a_Value_Dims a_Value_Data = (
      sbind (laws_toArray a_Value_Type_Kind a_Value_Type_Size a_Value_Type_Signed a_Value_Type_Big a_Value_Type_Names a_Value_Type_Nums a_Value_Type_Members a_Value_Type_Base a_Value_Type_Count a_Value_Dims a_Value_Data) fun r1 =>
      some (a_Name, r1.1, r1.2.1, r1.2.2.1, r1.2.2.2.1, r1.2.2.2.2.1, r1.2.2.2.2.2.1, r1.2.2.2.2.2.2.1, r1.2.2.2.2.2.2.2.1, r1.2.2.2.2.2.2.2.2.1, r1.2.2.2.2.2.2.2.2.2.1, r1.2.2.2.2.2.2.2.2.2.2)) := sem_eq (f := 68) (m := 0) rfl (by kernel_rfl)
theorem laws_toArray_eq (a_Type_Kind : Int) (a_Type_Size : Int) (a_Type_Signed : Bool) (a_Type_Big : Bool) (a_Type_Names : List ByteArray) (a_Type_Nums : List Int) (a_Type_Members : List (ByteArray × Int × Ty_Type)) (a_Type_Base : List Ty_Type) (a_Type_Count : Int) (a_Dims : List Int) (a_Data : ByteArray) :
    laws_toArray a_Type_Kind a_Type_Size a_Type_Signed a_Type_Big a_Type_Names a_Type_Nums a_Type_Members a_Type_Base a_Type_Count a_Dims a_Data = (
      sbind (laws_toType a_Type_Kind a_Type_Size a_Type_Signed a_Type_Big a_Type_Names a_Type_Nums a_Type_Members a_Type_Base a_Type_Count) fun r1 =>
      sbind (laws_toInt64S a_Dims) fun r2 =>
      some (r1.1, r1.2.1, r1.2.2.1, r1.2.2.2.1, r1.2.2.2.2.1, a_Data, r1.2.2.2.2.2.1, r1.2.2.2.2.2.2.1, r1.2.2.2.2.2.2.2.1, r1.2.2.2.2.2.2.2.2, r2)) := sem_eq (f := 91) (m := 0) rfl (by kernel_rfl)
theorem laws_toVirtual_eq (a_Type_Kind : Int) (a_Type_Size : Int) (a_Type_Signed : Bool) (a_Type_Big : Bool) (a_Type_Names : List ByteArray) (a_Type_Nums : List Int) (a_Type_Members : List (ByteArray × Int × Ty_Type)) (a_Type_Base : List Ty_Type) (a_Type_Count : Int) (a_Dims : List Int) (a_Fill : ByteArray) (a_Maps : List (ByteArray × Int × List Int × List Int × List Int × List Int × List (List Int) × Int × List Int × List Int × List Int × List Int × List (List Int))) :
    laws_toVirtual a_Type_Kind a_Type_Size a_Type_Signed a_Type_Big a_Type_Names a_Type_Nums a_Type_Members a_Type_Base a_Type_Count a_Dims a_Fill a_Maps = (
      sbind (laws_toType a_Type_Kind a_Type_Size a_Type_Signed a_Type_Big a_Type_Names a_Type_Nums a_Type_Members a_Type_Base a_Type_Count) fun r1 =>
      sbind (laws_toInt64S a_Dims) fun r2 =>
      sbind (laws_toMappingS a_Maps) fun r3 =>
      some (r1.1, r1.2.1, r1.2.2.1, r1.2.2.2.1, r1.2.2.2.2.1, a_Fill, r1.2.2.2.2.2.1, r1.2.2.2.2.2.2.1, r1.2.2.2.2.2.2.2.1, r1.2.2.2.2.2.2.2.2, r2, r3)) := sem_eq (f := 41) (m := 0) rfl (by kernel_rfl)
theorem laws_toMappingS_eq (a : List (ByteArray × Int × List Int × List Int × List Int × List Int × List (List Int) × Int × List Int × List Int × List Int × List Int × List (List Int))) :
    laws_toMappingS a = (
      sif (le3 0 (a.length : Int) (a.length : Int) && room a.length 272)
       (laws_toMappingS_l3 a 0 (List.replicate a.length ((bs [], 0, ([] : List Int), ([] : List Int), ([] : List Int), ([] : List Int), ([] : List (List Int)), 0, ([] : List Int), ([] : List Int), ([] : List Int), ([] : List Int), ([] : List (List Int))) : ByteArray × Int × List Int × List Int × List Int × List Int × List (List Int) × Int × List Int × List Int × List Int × List Int × List (List Int)))) (none)) := sem_eq (f := 69) (m := 0) rfl (by kernel_rfl)
theorem laws_toMappingS_l3_eq (a : List (ByteArray × Int × List Int × List Int × List Int × List Int × List (List Int) × Int × List Int × List Int × List Int × List Int × List (List Int))) (i : Int) (out : List (ByteArray × Int × List Int × List Int × List Int × List Int × List (List Int) × Int × List Int × List Int × List Int × List Int × List (List Int))) :
    laws_toMappingS_l3 a i out = (
      sif (decide (i < (a.length : Int)))
       (sbind (idx a i) fun x1 =>
        sbind (laws_toMapping x1.1 x1.2.1 x1.2.2.1 x1.2.2.2.1 x1.2.2.2.2.1 x1.2.2.2.2.2.1 x1.2.2.2.2.2.2.1 x1.2.2.2.2.2.2.2.1 x1.2.2.2.2.2.2.2.2.1 x1.2.2.2.2.2.2.2.2.2.1 x1.2.2.2.2.2.2.2.2.2.2.1 x1.2.2.2.2.2.2.2.2.2.2.2.1 x1.2.2.2.2.2.2.2.2.2.2.2.2) fun r2 =>
        sif (lt3 0 i (out.length : Int))
         (laws_toMappingS_l3 a (wi64 (i + 1)) (out.set i.toNat (r2.1, r2.2.1, r2.2.2.2.1, r2.2.2.2.2.1, r2.2.2.2.2.2.1, r2.2.2.2.2.2.2.1, r2.2.2.2.2.2.2.2.1, r2.2.2.1, r2.2.2.2.2.2.2.2.2.1, r2.2.2.2.2.2.2.2.2.2.1, r2.2.2.2.2.2.2.2.2.2.2.1, r2.2.2.2.2.2.2.2.2.2.2.2.1, r2.2.2.2.2.2.2.2.2.2.2.2.2))) (none)) (some out)) := seml_eq (f := 69) (m := 0) (l := 3) (by kernel_rfl)
theorem laws_toMapping_eq (a_Path : ByteArray) (a_Source_Kind : Int) (a_Source_Start : List Int) (a_Source_Stride : List Int) (a_Source_Count : List Int) (a_Source_Block : List Int) (a_Source_Points : List (List Int)) (a_Target_Kind : Int) (a_Target_Start : List Int) (a_Target_Stride : List Int) (a_Target_Count : List Int) (a_Target_Block : List Int) (a_Target_Points : List (List Int)) :
    laws_toMapping a_Path a_Source_Kind a_Source_Start a_Source_Stride a_Source_Count a_Source_Block a_Source_Points a_Target_Kind a_Target_Start a_Target_Stride a_Target_Count a_Target_Block a_Target_Points = (
      sbind (laws_toSelection a_Source_Kind a_Source_Start a_Source_Stride a_Source_Count a_Source_Block a_Source_Points) fun r1 =>
      sbind (laws_toSelection a_Target_Kind a_Target_Start a_Target_Stride a_Target_Count a_Target_Block a_Target_Points) fun r2 =>
      some (a_Path, r1.1, r2.1, r1.2.1, r1.2.2.1, r1.2.2.2.1, r1.2.2.2.2.1, r1.2.2.2.2.2, r2.2.1, r2.2.2.1, r2.2.2.2.1, r2.2.2.2.2.1, r2.2.2.2.2.2)) := sem_eq (f := 92) (m := 0) rfl (by kernel_rfl)
theorem laws_toSelection_eq (a_Kind : Int) (a_Start : List Int) (a_Stride : List Int) (a_Count : List Int) (a_Block : List Int) (a_Points : List (List Int)) :
    laws_toSelection a_Kind a_Start a_Stride a_Count a_Block a_Points = (
      sbind (laws_toInt64S a_Start) fun r1 =>
      sbind (laws_toInt64S a_Stride) fun r2 =>
      sbind (laws_toInt64S a_Count) fun r3 =>
      sbind (laws_toInt64S a_Block) fun r4 =>
      sbind (laws_toPointS a_Points) fun r5 =>
      some (a_Kind, r1, r2, r3, r4, r5)) := sem_eq (f := 106) (m := 0) rfl (by kernel_rfl)
theorem laws_toPointS_eq (a : List (List Int)) :
    laws_toPointS a = (
      sif (le3 0 (a.length : Int) (a.length : Int) && room a.length 24) (laws_toPointS_l3 a 0 (List.replicate a.length (([] : List Int) : List Int))) (none)) := sem_eq (f := 110) (m := 0) rfl (by kernel_rfl)
theorem laws_toPointS_l3_eq (a : List (List Int)) (i : Int) (out : List (List Int)) :
    laws_toPointS_l3 a i out = (
      sif (decide (i < (a.length : Int)))
       (sbind (idx a i) fun x1 =>
        sbind (laws_toPoint x1) fun r2 =>
        sif (lt3 0 i (out.length : Int)) (laws_toPointS_l3 a (wi64 (i + 1)) (out.set i.toNat r2)) (none)) (some out)) := seml_eq (f := 110) (m := 0) (l := 3) (by kernel_rfl)
theorem laws_toPoint_eq (a_At : List Int) :
    laws_toPoint a_At = (
      sbind (laws_toInt64S a_At) fun r1 =>
      some r1) := sem_eq (f := 113) (m := 0) rfl (by kernel_rfl)
theorem spec_SamePlain_eq (a_Objects : List (Int × Int × Int × List (ByteArray × Int × ByteArray) × Ty_Type × List Int × List Int × List Int × List (Int × Int × Bool) × ByteArray × Int × ByteArray × List (ByteArray × Ty_Type × List Int × ByteArray) × Ty_Type × List Int × ByteArray × List (ByteArray × Int × List Int × List Int × List Int × List Int × List (List Int) × Int × List Int × List Int × List Int × List Int × List (List Int)))) (b_Objects : List (Int × Int × Int × List (ByteArray × Int × ByteArray) × Ty_Type × List Int × List Int × List Int × List (Int × Int × Bool) × ByteArray × Int × ByteArray × List (ByteArray × Ty_Type × List Int × ByteArray) × Ty_Type × List Int × ByteArray × List (ByteArray × Int × List Int × List Int × List Int × List Int × List (List Int) × Int × List Int × List Int × List Int × List Int × List (List Int)))) :
    spec_SamePlain a_Objects b_Objects = (
      sif (((a_Objects.length : Int) != (b_Objects.length : Int))) (some false) (spec_SamePlain_l4 0 a_Objects b_Objects)) := sem_eq (f := 5) (m := 0) rfl (by kernel_rfl)
theorem spec_SamePlain_l4_eq (i : Int) (a : List (Int × Int × Int × List (ByteArray × Int × ByteArray) × Ty_Type × List Int × List Int × List Int × List (Int × Int × Bool) × ByteArray × Int × ByteArray × List (ByteArray × Ty_Type × List Int × ByteArray) × Ty_Type × List Int × ByteArray × List (ByteArray × Int × List Int × List Int × List Int × List Int × List (List Int) × Int × List Int × List Int × List Int × List Int × List (List Int)))) (b : List (Int × Int × Int × List (ByteArray × Int × ByteArray) × Ty_Type × List Int × List Int × List Int × List (Int × Int × Bool) × ByteArray × Int × ByteArray × List (ByteArray × Ty_Type × List Int × ByteArray) × Ty_Type × List Int × ByteArray × List (ByteArray × Int × List Int × List Int × List Int × List Int × List (List Int) × Int × List Int × List Int × List Int × List Int × List (List Int)))) :
    spec_SamePlain_l4 i a b = (
      sif (decide (i < (a.length : Int)))
       (sbind (idx a i) fun x1 =>
        sbind (idx b i) fun x2 =>
        sbind (spec_l26SameObject x1.1 x1.2.1 x1.2.2.1 x1.2.2.2.1 x1.2.2.2.2.1.f_Kind x1.2.2.2.2.1.f_Size x1.2.2.2.2.1.f_Signed x1.2.2.2.2.1.f_Big x1.2.2.2.2.1.f_Names x1.2.2.2.2.1.f_Nums x1.2.2.2.2.1.f_Members x1.2.2.2.2.1.f_Base x1.2.2.2.2.1.f_Count x1.2.2.2.2.2.1 x1.2.2.2.2.2.2.1 x1.2.2.2.2.2.2.2.1 x1.2.2.2.2.2.2.2.2.1 x1.2.2.2.2.2.2.2.2.2.1 x1.2.2.2.2.2.2.2.2.2.2.1 x1.2.2.2.2.2.2.2.2.2.2.2.1 x1.2.2.2.2.2.2.2.2.2.2.2.2.1 x1.2.2.2.2.2.2.2.2.2.2.2.2.2.1.f_Kind x1.2.2.2.2.2.2.2.2.2.2.2.2.2.1.f_Size x1.2.2.2.2.2.2.2.2.2.2.2.2.2.1.f_Signed x1.2.2.2.2.2.2.2.2.2.2.2.2.2.1.f_Big x1.2.2.2.2.2.2.2.2.2.2.2.2.2.1.f_Names x1.2.2.2.2.2.2.2.2.2.2.2.2.2.1.f_Nums x1.2.2.2.2.2.2.2.2.2.2.2.2.2.1.f_Members x1.2.2.2.2.2.2.2.2.2.2.2.2.2.1.f_Base x1.2.2.2.2.2.2.2.2.2.2.2.2.2.1.f_Count x1.2.2.2.2.2.2.2.2.2.2.2.2.2.2.1 x1.2.2.2.2.2.2.2.2.2.2.2.2.2.2.2.1 x1.2.2.2.2.2.2.2.2.2.2.2.2.2.2.2.2 x2.1 x2.2.1 x2.2.2.1 x2.2.2.2.1 x2.2.2.2.2.1.f_Kind x2.2.2.2.2.1.f_Size x2.2.2.2.2.1.f_Signed x2.2.2.2.2.1.f_Big x2.2.2.2.2.1.f_Names x2.2.2.2.2.1.f_Nums x2.2.2.2.2.1.f_Members x2.2.2.2.2.1.f_Base x2.2.2.2.2.1.f_Count x2.2.2.2.2.2.1 x2.2.2.2.2.2.2.1 x2.2.2.2.2.2.2.2.1 x2.2.2.2.2.2.2.2.2.1 x2.2.2.2.2.2.2.2.2.2.1 x2.2.2.2.2.2.2.2.2.2.2.1 x2.2.2.2.2.2.2.2.2.2.2.2.1 x2.2.2.2.2.2.2.2.2.2.2.2.2.1 x2.2.2.2.2.2.2.2.2.2.2.2.2.2.1.f_Kind x2.2.2.2.2.2.2.2.2.2.2.2.2.2.1.f_Size x2.2.2.2.2.2.2.2.2.2.2.2.2.2.1.f_Signed x2.2.2.2.2.2.2.2.2.2.2.2.2.2.1.f_Big x2.2.2.2.2.2.2.2.2.2.2.2.2.2.1.f_Names x2.2.2.2.2.2.2.2.2.2.2.2.2.2.1.f_Nums x2.2.2.2.2.2.2.2.2.2.2.2.2.2.1.f_Members x2.2.2.2.2.2.2.2.2.2.2.2.2.2.1.f_Base x2.2.2.2.2.2.2.2.2.2.2.2.2.2.1.f_Count x2.2.2.2.2.2.2.2.2.2.2.2.2.2.2.1 x2.2.2.2.2.2.2.2.2.2.2.2.2.2.2.2.1 x2.2.2.2.2.2.2.2.2.2.2.2.2.2.2.2.2) fun r3 =>
        sif (!r3) (some false) (spec_SamePlain_l4 (wi64 (i + 1)) a b)) (some true)) := seml_eq (f := 5) (m := 0) (l := 4) (by kernel_rfl)
theorem spec_l26SameObject_eq (a_Id : Int) (a_Kind : Int) (a_Refs : Int) (a_Links : List (ByteArray × Int × ByteArray)) (a_Set_Type_Kind : Int) (a_Set_Type_Size : Int) (a_Set_Type_Signed : Bool) (a_Set_Type_Big : Bool) (a_Set_Type_Names : List ByteArray) (a_Set_Type_Nums : List Int) (a_Set_Type_Members : List (ByteArray × Int × Ty_Type)) (a_Set_Type_Base : List Ty_Type) (a_Set_Type_Count : Int) (a_Set_Space_Dims : List Int) (a_Set_Space_Max : List Int) (a_Set_Chunk : List Int) (a_Set_Filters : List (Int × Int × Bool)) (a_Set_Fill : ByteArray) (a_Set_Index : Int) (a_Data : ByteArray) (a_Attrs : List (ByteArray × Ty_Type × List Int × ByteArray)) (a_Virtual_Type_Kind : Int) (a_Virtual_Type_Size : Int) (a_Virtual_Type_Signed : Bool) (a_Virtual_Type_Big : Bool) (a_Virtual_Type_Names : List ByteArray) (a_Virtual_Type_Nums : List Int) (a_Virtual_Type_Members : List (ByteArray × Int × Ty_Type)) (a_Virtual_Type_Base : List Ty_Type) (a_Virtual_Type_Count : Int) (a_Virtual_Dims : List Int) (a_Virtual_Fill : ByteArray) (a_Virtual_Maps : List (ByteArray × Int × List Int × List Int × List Int × List Int × List (List Int) × Int × List Int × List Int × List Int × List Int × List (List Int))) (b_Id : Int) (b_Kind : Int) (b_Refs : Int) (b_Links : List (ByteArray × Int × ByteArray)) (b_Set_Type_Kind : Int) (b_Set_Type_Size : Int) (b_Set_Type_Signed : Bool) (b_Set_Type_Big : Bool) (b_Set_Type_Names : List ByteArray) (b_Set_Type_Nums : List Int) (b_Set_Type_Members : List (ByteArray × Int × Ty_Type)) (b_Set_Type_Base : List Ty_Type) (b_Set_Type_Count : Int) (b_Set_Space_Dims : List Int) (b_Set_Space_Max : List Int) (b_Set_Chunk : List Int) (b_Set_Filters : List (Int × Int × Bool)) (b_Set_Fill : ByteArray) (b_Set_Index : Int) (b_Data : ByteArray) (b_Attrs : List (ByteArray × Ty_Type × List Int × ByteArray)) (b_Virtual_Type_Kind : Int) (b_Virtual_Type_Size : Int) (b_Virtual_Type_Signed : Bool) (b_Virtual_Type_Big : Bool) (b_Virtual_Type_Names : List ByteArray) (b_Virtual_Type_Nums : List Int) (b_Virtual_Type_Members : List (ByteArray × Int × Ty_Type)) (b_Virtual_Type_Base : List Ty_Type) (b_Virtual_Type_Count : Int) (b_Virtual_Dims : List Int) (b_Virtual_Fill : ByteArray) (b_Virtual_Maps : List (ByteArray × Int × List Int × List Int × List Int × List Int × List (List Int) × Int × List Int × List Int × List Int × List Int × List (List Int))) :
    spec_l26SameObject a_Id a_Kind a_Refs a_Links a_Set_Type_Kind a_Set_Type_Size a_Set_Type_Signed a_Set_Type_Big a_Set_Type_Names a_Set_Type_Nums a_Set_Type_Members a_Set_Type_Base a_Set_Type_Count a_Set_Space_Dims a_Set_Space_Max a_Set_Chunk a_Set_Filters a_Set_Fill a_Set_Index a_Data a_Attrs a_Virtual_Type_Kind a_Virtual_Type_Size a_Virtual_Type_Signed a_Virtual_Type_Big a_Virtual_Type_Names a_Virtual_Type_Nums a_Virtual_Type_Members a_Virtual_Type_Base a_Virtual_Type_Count a_Virtual_Dims a_Virtual_Fill a_Virtual_Maps b_Id b_Kind b_Refs b_Links b_Set_Type_Kind b_Set_Type_Size b_Set_Type_Signed b_Set_Type_Big b_Set_Type_Names b_Set_Type_Nums b_Set_Type_Members b_Set_Type_Base b_Set_Type_Count b_Set_Space_Dims b_Set_Space_Max b_Set_Chunk b_Set_Filters b_Set_Fill b_Set_Index b_Data b_Attrs b_Virtual_Type_Kind b_Virtual_Type_Size b_Virtual_Type_Signed b_Virtual_Type_Big b_Virtual_Type_Names b_Virtual_Type_Nums b_Virtual_Type_Members b_Virtual_Type_Base b_Virtual_Type_Count b_Virtual_Dims b_Virtual_Fill b_Virtual_Maps = (
      sif ((a_Id != b_Id)) (some false) <|
      sif ((a_Kind != b_Kind)) (some false) <|
      sif ((a_Refs != b_Refs)) (some false) <|
      sif (!seq a_Data b_Data) (some false) <|
      sbind (spec_l26Links a_Links b_Links) fun r1 =>
      sif (r1)
       (sbind (spec_SameDataset a_Set_Type_Kind a_Set_Type_Size a_Set_Type_Signed a_Set_Type_Big a_Set_Type_Names a_Set_Type_Nums a_Set_Type_Members a_Set_Type_Base a_Set_Type_Count a_Set_Space_Dims a_Set_Space_Max a_Set_Chunk a_Set_Filters a_Set_Fill a_Set_Index b_Set_Type_Kind b_Set_Type_Size b_Set_Type_Signed b_Set_Type_Big b_Set_Type_Names b_Set_Type_Nums b_Set_Type_Members b_Set_Type_Base b_Set_Type_Count b_Set_Space_Dims b_Set_Space_Max b_Set_Chunk b_Set_Filters b_Set_Fill b_Set_Index) fun r2 =>
        sif (r2)
         (sbind (spec_l26Attrs a_Attrs b_Attrs) fun r3 =>
          sif (r3)
           (sbind (spec_SameVirtual a_Virtual_Type_Kind a_Virtual_Type_Size a_Virtual_Type_Signed a_Virtual_Type_Big a_Virtual_Type_Names a_Virtual_Type_Nums a_Virtual_Type_Members a_Virtual_Type_Base a_Virtual_Type_Count a_Virtual_Dims a_Virtual_Fill a_Virtual_Maps b_Virtual_Type_Kind b_Virtual_Type_Size b_Virtual_Type_Signed b_Virtual_Type_Big b_Virtual_Type_Names b_Virtual_Type_Nums b_Virtual_Type_Members b_Virtual_Type_Base b_Virtual_Type_Count b_Virtual_Dims b_Virtual_Fill b_Virtual_Maps) fun r4 =>
            some r4) (some false)) (some false)) (some false)) := sem_eq (f := 10) (m := 0) rfl (by kernel_rfl)
theorem spec_l26Links_eq (a : List (ByteArray × Int × ByteArray)) (b : List (ByteArray × Int × ByteArray)) :
    spec_l26Links a b = (
      sif (((a.length : Int) != (b.length : Int))) (some false) (spec_l26Links_l4 a b 0)) := sem_eq (f := 16) (m := 0) rfl (by kernel_rfl)
theorem spec_l26Links_l4_eq (a : List (ByteArray × Int × ByteArray)) (b : List (ByteArray × Int × ByteArray)) (i : Int) :
    spec_l26Links_l4 a b i = (
      sif (decide (i < (a.length : Int)))
       (sbind (idx a i) fun x1 =>
        sbind (idx b i) fun x2 =>
        sif (!(seq x1.1 x2.1 && ((x1.2.1 == x2.2.1) && seq x1.2.2 x2.2.2))) (some false) (spec_l26Links_l4 a b (wi64 (i + 1)))) (some true)) := seml_eq (f := 16) (m := 0) (l := 4) (by kernel_rfl)
theorem spec_SameDataset_eq (a_Type_Kind : Int) (a_Type_Size : Int) (a_Type_Signed : Bool) (a_Type_Big : Bool) (a_Type_Names : List ByteArray) (a_Type_Nums : List Int) (a_Type_Members : List (ByteArray × Int × Ty_Type)) (a_Type_Base : List Ty_Type) (a_Type_Count : Int) (a_Space_Dims : List Int) (a_Space_Max : List Int) (a_Chunk : List Int) (a_Filters : List (Int × Int × Bool)) (a_Fill : ByteArray) (a_Index : Int) (b_Type_Kind : Int) (b_Type_Size : Int) (b_Type_Signed : Bool) (b_Type_Big : Bool) (b_Type_Names : List ByteArray) (b_Type_Nums : List Int) (b_Type_Members : List (ByteArray × Int × Ty_Type)) (b_Type_Base : List Ty_Type) (b_Type_Count : Int) (b_Space_Dims : List Int) (b_Space_Max : List Int) (b_Chunk : List Int) (b_Filters : List (Int × Int × Bool)) (b_Fill : ByteArray) (b_Index : Int) :
    spec_SameDataset a_Type_Kind a_Type_Size a_Type_Signed a_Type_Big a_Type_Names a_Type_Nums a_Type_Members a_Type_Base a_Type_Count a_Space_Dims a_Space_Max a_Chunk a_Filters a_Fill a_Index b_Type_Kind b_Type_Size b_Type_Signed b_Type_Big b_Type_Names b_Type_Nums b_Type_Members b_Type_Base b_Type_Count b_Space_Dims b_Space_Max b_Chunk b_Filters b_Fill b_Index = (
      sbind (spec_SameType a_Type_Kind a_Type_Size a_Type_Signed a_Type_Big a_Type_Names a_Type_Nums a_Type_Members a_Type_Base a_Type_Count b_Type_Kind b_Type_Size b_Type_Signed b_Type_Big b_Type_Names b_Type_Nums b_Type_Members b_Type_Base b_Type_Count) fun r1 =>
      sif (r1)
       (sbind (spec_SameSpace a_Space_Dims a_Space_Max b_Space_Dims b_Space_Max) fun r2 =>
        sif (r2)
         (sbind (spec_l02Ints a_Chunk b_Chunk) fun r3 =>
          sif (r3)
           (sbind (spec_l19Same a_Filters b_Filters) fun r4 =>
            sif (r4) (sif (seq a_Fill b_Fill) (some (a_Index == b_Index)) (some false)) (some false)) (some false)) (some false)) (some false)) := sem_eq (f := 17) (m := 0) rfl (by kernel_rfl)
theorem spec_SameType_eq (a_Kind : Int) (a_Size : Int) (a_Signed : Bool) (a_Big : Bool) (a_Names : List ByteArray) (a_Nums : List Int) (a_Members : List (ByteArray × Int × Ty_Type)) (a_Base : List Ty_Type) (a_Count : Int) (b_Kind : Int) (b_Size : Int) (b_Signed : Bool) (b_Big : Bool) (b_Names : List ByteArray) (b_Nums : List Int) (b_Members : List (ByteArray × Int × Ty_Type)) (b_Base : List Ty_Type) (b_Count : Int) :
    spec_SameType a_Kind a_Size a_Signed a_Big a_Names a_Nums a_Members a_Base a_Count b_Kind b_Size b_Signed b_Big b_Names b_Nums b_Members b_Base b_Count = (
      sif ((a_Kind != b_Kind)) (some false) <|
      sif ((a_Size != b_Size)) (some false) <|
      sif (!(a_Signed == b_Signed)) (some false) <|
      sif (!(a_Big == b_Big)) (some false) <|
      sif ((a_Count != b_Count)) (some false) <|
      sif (((a_Members.length : Int) != (b_Members.length : Int))) (some false) <|
      sif (((a_Base.length : Int) != (b_Base.length : Int))) (some false) <|
      spec_SameType_l4 0 a_Kind a_Size a_Signed a_Big a_Names a_Nums a_Members a_Base a_Count b_Kind b_Size b_Signed b_Big b_Names b_Nums b_Members b_Base b_Count) := sem_eq (f := 31) (m := 0) rfl (by kernel_rfl)
theorem spec_SameType_l4_eq (i : Int) (a_Kind : Int) (a_Size : Int) (a_Signed : Bool) (a_Big : Bool) (a_Names : List ByteArray) (a_Nums : List Int) (a_Members : List (ByteArray × Int × Ty_Type)) (a_Base : List Ty_Type) (a_Count : Int) (b_Kind : Int) (b_Size : Int) (b_Signed : Bool) (b_Big : Bool) (b_Names : List ByteArray) (b_Nums : List Int) (b_Members : List (ByteArray × Int × Ty_Type)) (b_Base : List Ty_Type) (b_Count : Int) :
    spec_SameType_l4 i a_Kind a_Size a_Signed a_Big a_Names a_Nums a_Members a_Base a_Count b_Kind b_Size b_Signed b_Big b_Names b_Nums b_Members b_Base b_Count = (
      sif (decide (i < (a_Members.length : Int)))
       (sbind (idx a_Members i) fun x1 =>
        sbind (idx b_Members i) fun x2 =>
        sif (!seq x1.1 x2.1) (some false) <|
        sbind (idx a_Members i) fun x3 =>
        sbind (idx b_Members i) fun x4 =>
        sif ((x3.2.1 != x4.2.1)) (some false) <|
        sbind (idx a_Members i) fun x5 =>
        sbind (idx b_Members i) fun x6 =>
        sbind (spec_SameType x5.2.2.f_Kind x5.2.2.f_Size x5.2.2.f_Signed x5.2.2.f_Big x5.2.2.f_Names x5.2.2.f_Nums x5.2.2.f_Members x5.2.2.f_Base x5.2.2.f_Count x6.2.2.f_Kind x6.2.2.f_Size x6.2.2.f_Signed x6.2.2.f_Big x6.2.2.f_Names x6.2.2.f_Nums x6.2.2.f_Members x6.2.2.f_Base x6.2.2.f_Count) fun r7 =>
        sif (!r7) (some false) <|
        spec_SameType_l4 (wi64 (i + 1)) a_Kind a_Size a_Signed a_Big a_Names a_Nums a_Members a_Base a_Count b_Kind b_Size b_Signed b_Big b_Names b_Nums b_Members b_Base b_Count) <|
      spec_SameType_l9 0 a_Kind a_Size a_Signed a_Big a_Names a_Nums a_Members a_Base a_Count b_Kind b_Size b_Signed b_Big b_Names b_Nums b_Members b_Base b_Count) := seml_eq (f := 31) (m := 0) (l := 4) (by kernel_rfl)
theorem spec_SameType_l9_eq (i : Int) (a_Kind : Int) (a_Size : Int) (a_Signed : Bool) (a_Big : Bool) (a_Names : List ByteArray) (a_Nums : List Int) (a_Members : List (ByteArray × Int × Ty_Type)) (a_Base : List Ty_Type) (a_Count : Int) (b_Kind : Int) (b_Size : Int) (b_Signed : Bool) (b_Big : Bool) (b_Names : List ByteArray) (b_Nums : List Int) (b_Members : List (ByteArray × Int × Ty_Type)) (b_Base : List Ty_Type) (b_Count : Int) :
    spec_SameType_l9 i a_Kind a_Size a_Signed a_Big a_Names a_Nums a_Members a_Base a_Count b_Kind b_Size b_Signed b_Big b_Names b_Nums b_Members b_Base b_Count = (
      sif (decide (i < (a_Base.length : Int)))
       (sbind (idx a_Base i) fun x1 =>
        sbind (idx b_Base i) fun x2 =>
        sbind (spec_SameType x1.f_Kind x1.f_Size x1.f_Signed x1.f_Big x1.f_Names x1.f_Nums x1.f_Members x1.f_Base x1.f_Count x2.f_Kind x2.f_Size x2.f_Signed x2.f_Big x2.f_Names x2.f_Nums x2.f_Members x2.f_Base x2.f_Count) fun r3 =>
        sif (!r3) (some false) <|
        spec_SameType_l9 (wi64 (i + 1)) a_Kind a_Size a_Signed a_Big a_Names a_Nums a_Members a_Base a_Count b_Kind b_Size b_Signed b_Big b_Names b_Nums b_Members b_Base b_Count) <|
      sbind (spec_l02Texts a_Names b_Names) fun r1 =>
      sif (r1)
       (sbind (spec_l02Ints a_Nums b_Nums) fun r2 =>
        some r2) (some false)) := seml_eq (f := 31) (m := 0) (l := 9) (by kernel_rfl)
theorem spec_l02Texts_eq (a : List ByteArray) (b : List ByteArray) :
    spec_l02Texts a b = (
      sif (((a.length : Int) != (b.length : Int))) (some false) (spec_l02Texts_l4 a b 0)) := sem_eq (f := 60) (m := 0) rfl (by kernel_rfl)
theorem spec_l02Texts_l4_eq (a : List ByteArray) (b : List ByteArray) (i : Int) :
    spec_l02Texts_l4 a b i = (
      sif (decide (i < (a.length : Int)))
       (sbind (idx a i) fun x1 =>
        sbind (idx b i) fun x2 =>
        sif (!seq x1 x2) (some false) (spec_l02Texts_l4 a b (wi64 (i + 1)))) (some true)) := seml_eq (f := 60) (m := 0) (l := 4) (by kernel_rfl)
theorem spec_l02Ints_eq (a : List Int) (b : List Int) :
    spec_l02Ints a b = (
      sif (((a.length : Int) != (b.length : Int))) (some false) (spec_l02Ints_l4 a b 0)) := sem_eq (f := 33) (m := 0) rfl (by kernel_rfl)
theorem spec_l02Ints_l4_eq (a : List Int) (b : List Int) (i : Int) :
    spec_l02Ints_l4 a b i = (
      sif (decide (i < (a.length : Int)))
       (sbind (idx a i) fun x1 =>
        sbind (idx b i) fun x2 =>
        sif ((x1 != x2)) (some false) (spec_l02Ints_l4 a b (wi64 (i + 1)))) (some true)) := seml_eq (f := 33) (m := 0) (l := 4) (by kernel_rfl)
theorem spec_SameSpace_eq (a_Dims : List Int) (a_Max : List Int) (b_Dims : List Int) (b_Max : List Int) :
    spec_SameSpace a_Dims a_Max b_Dims b_Max = (
      sbind (spec_l00Same a_Dims b_Dims) fun r1 =>
      sif (r1)
       (sbind (spec_l00Same a_Max b_Max) fun r2 =>
        some r2) (some false)) := sem_eq (f := 32) (m := 0) rfl (by kernel_rfl)
theorem spec_l00Same_eq (a : List Int) (b : List Int) :
    spec_l00Same a b = (
      sif (((a.length : Int) != (b.length : Int))) (some false) (spec_l00Same_l4 a b 0)) := sem_eq (f := 36) (m := 0) rfl (by kernel_rfl)
theorem spec_l00Same_l4_eq (a : List Int) (b : List Int) (i : Int) :
    spec_l00Same_l4 a b i = (
      sif (decide (i < (a.length : Int)))
       (sbind (idx a i) fun x1 =>
        sbind (idx b i) fun x2 =>
        sif ((x1 != x2)) (some false) (spec_l00Same_l4 a b (wi64 (i + 1)))) (some true)) := seml_eq (f := 36) (m := 0) (l := 4) (by kernel_rfl)
theorem spec_l19Same_eq (a : List (Int × Int × Bool)) (b : List (Int × Int × Bool)) :
    spec_l19Same a b = (
      sif (((a.length : Int) != (b.length : Int))) (some false) (spec_l19Same_l4 a b 0)) := sem_eq (f := 34) (m := 0) rfl (by kernel_rfl)
theorem spec_l19Same_l4_eq (a : List (Int × Int × Bool)) (b : List (Int × Int × Bool)) (i : Int) :
    spec_l19Same_l4 a b i = (
      sif (decide (i < (a.length : Int)))
       (sbind (idx a i) fun x1 =>
        sbind (idx b i) fun x2 =>
        sif (!((x1.1 == x2.1) && ((x1.2.1 == x2.2.1) && (x1.2.2 == x2.2.2)))) (some false) (spec_l19Same_l4 a b (wi64 (i + 1)))) (some true)) := seml_eq (f := 34) (m := 0) (l := 4) (by kernel_rfl)
theorem spec_l26Attrs_eq (a : List (ByteArray × Ty_Type × List Int × ByteArray)) (b : List (ByteArray × Ty_Type × List Int × ByteArray)) :
    spec_l26Attrs a b = (
      sif (((a.length : Int) != (b.length : Int))) (some false) (spec_l26Attrs_l4 a b 0)) := sem_eq (f := 18) (m := 0) rfl (by kernel_rfl)
theorem spec_l26Attrs_l4_eq (a : List (ByteArray × Ty_Type × List Int × ByteArray)) (b : List (ByteArray × Ty_Type × List Int × ByteArray)) (i : Int) :
    spec_l26Attrs_l4 a b i = (
      sif (decide (i < (a.length : Int)))
       (sbind (idx a i) fun x1 =>
        sbind (idx b i) fun x2 =>
        sbind (spec_SameAttribute x1.1 x1.2.1.f_Kind x1.2.1.f_Size x1.2.1.f_Signed x1.2.1.f_Big x1.2.1.f_Names x1.2.1.f_Nums x1.2.1.f_Members x1.2.1.f_Base x1.2.1.f_Count x1.2.2.1 x1.2.2.2 x2.1 x2.2.1.f_Kind x2.2.1.f_Size x2.2.1.f_Signed x2.2.1.f_Big x2.2.1.f_Names x2.2.1.f_Nums x2.2.1.f_Members x2.2.1.f_Base x2.2.1.f_Count x2.2.2.1 x2.2.2.2) fun r3 =>
        sif (!r3) (some false) (spec_l26Attrs_l4 a b (wi64 (i + 1)))) (some true)) := seml_eq (f := 18) (m := 0) (l := 4) (by kernel_rfl)
theorem spec_SameAttribute_eq (a_Name : ByteArray) (a_Value_Type_Kind : Int) (a_Value_Type_Size : Int) (a_Value_Type_Signed : Bool) (a_Value_Type_Big : Bool) (a_Value_Type_Names : List ByteArray) (a_Value_Type_Nums : List Int) (a_Value_Type_Members : List (ByteArray × Int × Ty_Type)) (a_Value_Type_Base : List Ty_Type) (a_Value_Type_Count : Int) (a_Value_Dims : List Int) (a_Value_Data : ByteArray) (b_Name : ByteArray) (b_Value_Type_Kind : Int) (b_Value_Type_Size : Int) (b_Value_Type_Signed : Bool) (b_Value_Type_Big : Bool) (b_Value_Type_Names : List ByteArray) (b_Value_Type_Nums : List Int) (b_Value_Type_Members : List (ByteArray × Int × Ty_Type)) (b_Value_Type_Base : List Ty_Type) (b_Value_Type_Count : Int) (b_Value_Dims : List Int) (b_Value_Data : ByteArray) :
    spec_SameAttribute a_Name a_Value_Type_Kind a_Value_Type_Size a_Value_Type_Signed a_Value_Type_Big a_Value_Type_Names a_Value_Type_Nums a_Value_Type_Members a_Value_Type_Base a_Value_Type_Count a_Value_Dims a_Value_Data b_Name b_Value_Type_Kind b_Value_Type_Size b_Value_Type_Signed b_Value_Type_Big b_Value_Type_Names b_Value_Type_Nums b_Value_Type_Members b_Value_Type_Base b_Value_Type_Count b_Value_Dims b_Value_Data = (
      sif (seq a_Name b_Name)
       (sbind (spec_SameArray a_Value_Type_Kind a_Value_Type_Size a_Value_Type_Signed a_Value_Type_Big a_Value_Type_Names a_Value_Type_Nums a_Value_Type_Members a_Value_Type_Base a_Value_Type_Count a_Value_Dims a_Value_Data b_Value_Type_Kind b_Value_Type_Size b_Value_Type_Signed b_Value_Type_Big b_Value_Type_Names b_Value_Type_Nums b_Value_Type_Members b_Value_Type_Base b_Value_Type_Count b_Value_Dims b_Value_Data) fun r1 =>
        some r1) (some false)) := sem_eq (f := 35) (m := 0) rfl (by kernel_rfl)
theorem spec_SameArray_eq (a_Type_Kind : Int) (a_Type_Size : Int) (a_Type_Signed : Bool) (a_Type_Big : Bool) (a_Type_Names : List ByteArray) (a_Type_Nums : List Int) (a_Type_Members : List (ByteArray × Int × Ty_Type)) (a_Type_Base : List Ty_Type) (a_Type_Count : Int) (a_Dims : List Int) (a_Data : ByteArray) (b_Type_Kind : Int) (b_Type_Size : Int) (b_Type_Signed : Bool) (b_Type_Big : Bool) (b_Type_Names : List ByteArray) (b_Type_Nums : List Int) (b_Type_Members : List (ByteArray × Int × Ty_Type)) (b_Type_Base : List Ty_Type) (b_Type_Count : Int) (b_Dims : List Int) (b_Data : ByteArray) :
    spec_SameArray a_Type_Kind a_Type_Size a_Type_Signed a_Type_Big a_Type_Names a_Type_Nums a_Type_Members a_Type_Base a_Type_Count a_Dims a_Data b_Type_Kind b_Type_Size b_Type_Signed b_Type_Big b_Type_Names b_Type_Nums b_Type_Members b_Type_Base b_Type_Count b_Dims b_Data = (
      sbind (spec_SameType a_Type_Kind a_Type_Size a_Type_Signed a_Type_Big a_Type_Names a_Type_Nums a_Type_Members a_Type_Base a_Type_Count b_Type_Kind b_Type_Size b_Type_Signed b_Type_Big b_Type_Names b_Type_Nums b_Type_Members b_Type_Base b_Type_Count) fun r1 =>
      sif (r1)
       (sbind (spec_l00Same a_Dims b_Dims) fun r2 =>
        sif (r2) (some (seq a_Data b_Data)) (some false)) (some false)) := sem_eq (f := 61) (m := 0) rfl (by kernel_rfl)
theorem spec_SameVirtual_eq (a_Type_Kind : Int) (a_Type_Size : Int) (a_Type_Signed : Bool) (a_Type_Big : Bool) (a_Type_Names : List ByteArray) (a_Type_Nums : List Int) (a_Type_Members : List (ByteArray × Int × Ty_Type)) (a_Type_Base : List Ty_Type) (a_Type_Count : Int) (a_Dims : List Int) (a_Fill : ByteArray) (a_Maps : List (ByteArray × Int × List Int × List Int × List Int × List Int × List (List Int) × Int × List Int × List Int × List Int × List Int × List (List Int))) (b_Type_Kind : Int) (b_Type_Size : Int) (b_Type_Signed : Bool) (b_Type_Big : Bool) (b_Type_Names : List ByteArray) (b_Type_Nums : List Int) (b_Type_Members : List (ByteArray × Int × Ty_Type)) (b_Type_Base : List Ty_Type) (b_Type_Count : Int) (b_Dims : List Int) (b_Fill : ByteArray) (b_Maps : List (ByteArray × Int × List Int × List Int × List Int × List Int × List (List Int) × Int × List Int × List Int × List Int × List Int × List (List Int))) :
    spec_SameVirtual a_Type_Kind a_Type_Size a_Type_Signed a_Type_Big a_Type_Names a_Type_Nums a_Type_Members a_Type_Base a_Type_Count a_Dims a_Fill a_Maps b_Type_Kind b_Type_Size b_Type_Signed b_Type_Big b_Type_Names b_Type_Nums b_Type_Members b_Type_Base b_Type_Count b_Dims b_Fill b_Maps = (
      sbind (spec_SameType a_Type_Kind a_Type_Size a_Type_Signed a_Type_Big a_Type_Names a_Type_Nums a_Type_Members a_Type_Base a_Type_Count b_Type_Kind b_Type_Size b_Type_Signed b_Type_Big b_Type_Names b_Type_Nums b_Type_Members b_Type_Base b_Type_Count) fun r1 =>
      sif (!r1) (some false) <|
      sbind (spec_l00Same a_Dims b_Dims) fun r2 =>
      sif (!r2) (some false) <|
      sif (!seq a_Fill b_Fill) (some false) <|
      sif (((a_Maps.length : Int) != (b_Maps.length : Int))) (some false) <|
      spec_SameVirtual_l4 0 a_Type_Kind a_Type_Size a_Type_Signed a_Type_Big a_Type_Names a_Type_Nums a_Type_Members a_Type_Base a_Type_Count a_Dims a_Fill a_Maps b_Type_Kind b_Type_Size b_Type_Signed b_Type_Big b_Type_Names b_Type_Nums b_Type_Members b_Type_Base b_Type_Count b_Dims b_Fill b_Maps) := sem_eq (f := 19) (m := 0) rfl (by kernel_rfl)
theorem spec_SameVirtual_l4_eq (i : Int) (a_Type_Kind : Int) (a_Type_Size : Int) (a_Type_Signed : Bool) (a_Type_Big : Bool) (a_Type_Names : List ByteArray) (a_Type_Nums : List Int) (a_Type_Members : List (ByteArray × Int × Ty_Type)) (a_Type_Base : List Ty_Type) (a_Type_Count : Int) (a_Dims : List Int) (a_Fill : ByteArray) (a_Maps : List (ByteArray × Int × List Int × List Int × List Int × List Int × List (List Int) × Int × List Int × List Int × List Int × List Int × List (List Int))) (b_Type_Kind : Int) (b_Type_Size : Int) (b_Type_Signed : Bool) (b_Type_Big : Bool) (b_Type_Names : List ByteArray) (b_Type_Nums : List Int) (b_Type_Members : List (ByteArray × Int × Ty_Type)) (b_Type_Base : List Ty_Type) (b_Type_Count : Int) (b_Dims : List Int) (b_Fill : ByteArray) (b_Maps : List (ByteArray × Int × List Int × List Int × List Int × List Int × List (List Int) × Int × List Int × List Int × List Int × List Int × List (List Int))) :
    spec_SameVirtual_l4 i a_Type_Kind a_Type_Size a_Type_Signed a_Type_Big a_Type_Names a_Type_Nums a_Type_Members a_Type_Base a_Type_Count a_Dims a_Fill a_Maps b_Type_Kind b_Type_Size b_Type_Signed b_Type_Big b_Type_Names b_Type_Nums b_Type_Members b_Type_Base b_Type_Count b_Dims b_Fill b_Maps = (
      sif (decide (i < (a_Maps.length : Int)))
       (sbind (idx a_Maps i) fun x1 =>
        sbind (idx b_Maps i) fun x2 =>
        sif (!seq x1.1 x2.1) (some false) <|
        sbind (spec_SameSelection x1.2.1 x1.2.2.1 x1.2.2.2.1 x1.2.2.2.2.1 x1.2.2.2.2.2.1 x1.2.2.2.2.2.2.1 x2.2.1 x2.2.2.1 x2.2.2.2.1 x2.2.2.2.2.1 x2.2.2.2.2.2.1 x2.2.2.2.2.2.2.1) fun r3 =>
        sif (!r3) (some false) <|
        sbind (spec_SameSelection x1.2.2.2.2.2.2.2.1 x1.2.2.2.2.2.2.2.2.1 x1.2.2.2.2.2.2.2.2.2.1 x1.2.2.2.2.2.2.2.2.2.2.1 x1.2.2.2.2.2.2.2.2.2.2.2.1 x1.2.2.2.2.2.2.2.2.2.2.2.2 x2.2.2.2.2.2.2.2.1 x2.2.2.2.2.2.2.2.2.1 x2.2.2.2.2.2.2.2.2.2.1 x2.2.2.2.2.2.2.2.2.2.2.1 x2.2.2.2.2.2.2.2.2.2.2.2.1 x2.2.2.2.2.2.2.2.2.2.2.2.2) fun r4 =>
        sif (!r4) (some false) <|
        spec_SameVirtual_l4 (wi64 (i + 1)) a_Type_Kind a_Type_Size a_Type_Signed a_Type_Big a_Type_Names a_Type_Nums a_Type_Members a_Type_Base a_Type_Count a_Dims a_Fill a_Maps b_Type_Kind b_Type_Size b_Type_Signed b_Type_Big b_Type_Names b_Type_Nums b_Type_Members b_Type_Base b_Type_Count b_Dims b_Fill b_Maps) (some true)) := seml_eq (f := 19) (m := 0) (l := 4) (by kernel_rfl)
theorem spec_SameSelection_eq (a_Kind : Int) (a_Start : List Int) (a_Stride : List Int) (a_Count : List Int) (a_Block : List Int) (a_Points : List (List Int)) (b_Kind : Int) (b_Start : List Int) (b_Stride : List Int) (b_Count : List Int) (b_Block : List Int) (b_Points : List (List Int)) :
    spec_SameSelection a_Kind a_Start a_Stride a_Count a_Block a_Points b_Kind b_Start b_Stride b_Count b_Block b_Points = (
      sif ((a_Kind == b_Kind))
       (sbind (spec_l00Same a_Start b_Start) fun r1 =>
        sif (r1)
         (sbind (spec_l00Same a_Stride b_Stride) fun r2 =>
          sif (r2)
           (sbind (spec_l00Same a_Count b_Count) fun r3 =>
            sif (r3)
             (sbind (spec_l00Same a_Block b_Block) fun r4 =>
              sif (r4)
               (sbind (spec_l06SamePoints a_Points b_Points) fun r5 =>
                some r5) (some false)) (some false)) (some false)) (some false)) (some false)) := sem_eq (f := 37) (m := 0) rfl (by kernel_rfl)
theorem spec_l06SamePoints_eq (a : List (List Int)) (b : List (List Int)) :
    spec_l06SamePoints a b = (
      sif (((a.length : Int) != (b.length : Int))) (some false) (spec_l06SamePoints_l4 a b 0)) := sem_eq (f := 62) (m := 0) rfl (by kernel_rfl)
theorem spec_l06SamePoints_l4_eq (a : List (List Int)) (b : List (List Int)) (i : Int) :
    spec_l06SamePoints_l4 a b i = (
      sif (decide (i < (a.length : Int)))
       (sbind (idx a i) fun x1 =>
        sbind (idx b i) fun x2 =>
        sbind (spec_l00Same x1 x2) fun r3 =>
        sif (!r3) (some false) (spec_l06SamePoints_l4 a b (wi64 (i + 1)))) (some true)) := seml_eq (f := 62) (m := 0) (l := 4) (by kernel_rfl)
theorem impl_SamePlain_eq (a_Objects : List (Int × Int × Int × List (ByteArray × Int × ByteArray) × Ty_Type × List Int × List Int × List Int × List (Int × Int × Bool) × ByteArray × Int × ByteArray × List (ByteArray × Ty_Type × List Int × ByteArray) × Ty_Type × List Int × ByteArray × List (ByteArray × Int × List Int × List Int × List Int × List Int × List (List Int) × Int × List Int × List Int × List Int × List Int × List (List Int)))) (b_Objects : List (Int × Int × Int × List (ByteArray × Int × ByteArray) × Ty_Type × List Int × List Int × List Int × List (Int × Int × Bool) × ByteArray × Int × ByteArray × List (ByteArray × Ty_Type × List Int × ByteArray) × Ty_Type × List Int × ByteArray × List (ByteArray × Int × List Int × List Int × List Int × List Int × List (List Int) × Int × List Int × List Int × List Int × List Int × List (List Int)))) :
    impl_SamePlain a_Objects b_Objects = (
      sbind (slices_EqualFunc_simpl_PlainObject_simpl_PlainObject_impl_PlainObject_impl_PlainObject_dd_sameObject a_Objects b_Objects) fun r1 =>
      some r1) := sem_eq (f := 7) (m := 0) rfl (by kernel_rfl)
theorem slices_EqualFunc_simpl_PlainObject_simpl_PlainObject_impl_PlainObject_impl_PlainObject_dd_sameObject_eq (s1 : List (Int × Int × Int × List (ByteArray × Int × ByteArray) × Ty_Type × List Int × List Int × List Int × List (Int × Int × Bool) × ByteArray × Int × ByteArray × List (ByteArray × Ty_Type × List Int × ByteArray) × Ty_Type × List Int × ByteArray × List (ByteArray × Int × List Int × List Int × List Int × List Int × List (List Int) × Int × List Int × List Int × List Int × List Int × List (List Int)))) (s2 : List (Int × Int × Int × List (ByteArray × Int × ByteArray) × Ty_Type × List Int × List Int × List Int × List (Int × Int × Bool) × ByteArray × Int × ByteArray × List (ByteArray × Ty_Type × List Int × ByteArray) × Ty_Type × List Int × ByteArray × List (ByteArray × Int × List Int × List Int × List Int × List Int × List (List Int) × Int × List Int × List Int × List Int × List Int × List (List Int)))) :
    slices_EqualFunc_simpl_PlainObject_simpl_PlainObject_impl_PlainObject_impl_PlainObject_dd_sameObject s1 s2 = (
      sif (((s1.length : Int) != (s2.length : Int))) (some false) <|
      slices_EqualFunc_simpl_PlainObject_simpl_PlainObject_impl_PlainObject_impl_PlainObject_dd_sameObject_l4 s2 s1 (s1.length : Int) 0) := sem_eq (f := 12) (m := 0) rfl (by kernel_rfl)
theorem slices_EqualFunc_simpl_PlainObject_simpl_PlainObject_impl_PlainObject_impl_PlainObject_dd_sameObject_l4_eq (s2 : List (Int × Int × Int × List (ByteArray × Int × ByteArray) × Ty_Type × List Int × List Int × List Int × List (Int × Int × Bool) × ByteArray × Int × ByteArray × List (ByteArray × Ty_Type × List Int × ByteArray) × Ty_Type × List Int × ByteArray × List (ByteArray × Int × List Int × List Int × List Int × List Int × List (List Int) × Int × List Int × List Int × List Int × List Int × List (List Int)))) (t15 : List (Int × Int × Int × List (ByteArray × Int × ByteArray) × Ty_Type × List Int × List Int × List Int × List (Int × Int × Bool) × ByteArray × Int × ByteArray × List (ByteArray × Ty_Type × List Int × ByteArray) × Ty_Type × List Int × ByteArray × List (ByteArray × Int × List Int × List Int × List Int × List Int × List (List Int) × Int × List Int × List Int × List Int × List Int × List (List Int)))) (t16 : Int) (t17 : Int) :
    slices_EqualFunc_simpl_PlainObject_simpl_PlainObject_impl_PlainObject_impl_PlainObject_dd_sameObject_l4 s2 t15 t16 t17 = (
      sif (decide (t17 < t16))
       (sbind (idx t15 t17) fun x1 =>
        sbind (idx s2 t17) fun x2 =>
        sbind (impl_sameObject x1.1 x1.2.1 x1.2.2.1 x1.2.2.2.1 x1.2.2.2.2.1.f_Kind x1.2.2.2.2.1.f_Size x1.2.2.2.2.1.f_Signed x1.2.2.2.2.1.f_Big x1.2.2.2.2.1.f_Names x1.2.2.2.2.1.f_Nums x1.2.2.2.2.1.f_Members x1.2.2.2.2.1.f_Base x1.2.2.2.2.1.f_Count x1.2.2.2.2.2.1 x1.2.2.2.2.2.2.1 x1.2.2.2.2.2.2.2.1 x1.2.2.2.2.2.2.2.2.1 x1.2.2.2.2.2.2.2.2.2.1 x1.2.2.2.2.2.2.2.2.2.2.1 x1.2.2.2.2.2.2.2.2.2.2.2.1 x1.2.2.2.2.2.2.2.2.2.2.2.2.1 x1.2.2.2.2.2.2.2.2.2.2.2.2.2.1.f_Kind x1.2.2.2.2.2.2.2.2.2.2.2.2.2.1.f_Size x1.2.2.2.2.2.2.2.2.2.2.2.2.2.1.f_Signed x1.2.2.2.2.2.2.2.2.2.2.2.2.2.1.f_Big x1.2.2.2.2.2.2.2.2.2.2.2.2.2.1.f_Names x1.2.2.2.2.2.2.2.2.2.2.2.2.2.1.f_Nums x1.2.2.2.2.2.2.2.2.2.2.2.2.2.1.f_Members x1.2.2.2.2.2.2.2.2.2.2.2.2.2.1.f_Base x1.2.2.2.2.2.2.2.2.2.2.2.2.2.1.f_Count x1.2.2.2.2.2.2.2.2.2.2.2.2.2.2.1 x1.2.2.2.2.2.2.2.2.2.2.2.2.2.2.2.1 x1.2.2.2.2.2.2.2.2.2.2.2.2.2.2.2.2 x2.1 x2.2.1 x2.2.2.1 x2.2.2.2.1 x2.2.2.2.2.1.f_Kind x2.2.2.2.2.1.f_Size x2.2.2.2.2.1.f_Signed x2.2.2.2.2.1.f_Big x2.2.2.2.2.1.f_Names x2.2.2.2.2.1.f_Nums x2.2.2.2.2.1.f_Members x2.2.2.2.2.1.f_Base x2.2.2.2.2.1.f_Count x2.2.2.2.2.2.1 x2.2.2.2.2.2.2.1 x2.2.2.2.2.2.2.2.1 x2.2.2.2.2.2.2.2.2.1 x2.2.2.2.2.2.2.2.2.2.1 x2.2.2.2.2.2.2.2.2.2.2.1 x2.2.2.2.2.2.2.2.2.2.2.2.1 x2.2.2.2.2.2.2.2.2.2.2.2.2.1 x2.2.2.2.2.2.2.2.2.2.2.2.2.2.1.f_Kind x2.2.2.2.2.2.2.2.2.2.2.2.2.2.1.f_Size x2.2.2.2.2.2.2.2.2.2.2.2.2.2.1.f_Signed x2.2.2.2.2.2.2.2.2.2.2.2.2.2.1.f_Big x2.2.2.2.2.2.2.2.2.2.2.2.2.2.1.f_Names x2.2.2.2.2.2.2.2.2.2.2.2.2.2.1.f_Nums x2.2.2.2.2.2.2.2.2.2.2.2.2.2.1.f_Members x2.2.2.2.2.2.2.2.2.2.2.2.2.2.1.f_Base x2.2.2.2.2.2.2.2.2.2.2.2.2.2.1.f_Count x2.2.2.2.2.2.2.2.2.2.2.2.2.2.2.1 x2.2.2.2.2.2.2.2.2.2.2.2.2.2.2.2.1 x2.2.2.2.2.2.2.2.2.2.2.2.2.2.2.2.2) fun r3 =>
        sif (!r3) (some false) <|
        slices_EqualFunc_simpl_PlainObject_simpl_PlainObject_impl_PlainObject_impl_PlainObject_dd_sameObject_l4 s2 t15 t16 (wi64 (t17 + 1))) (some true)) := seml_eq (f := 12) (m := 0) (l := 4) (by kernel_rfl)
theorem impl_sameObject_eq (a_Id : Int) (a_Kind : Int) (a_Refs : Int) (a_Links : List (ByteArray × Int × ByteArray)) (a_Set_Type_Kind : Int) (a_Set_Type_Size : Int) (a_Set_Type_Signed : Bool) (a_Set_Type_Big : Bool) (a_Set_Type_Names : List ByteArray) (a_Set_Type_Nums : List Int) (a_Set_Type_Members : List (ByteArray × Int × Ty_Type)) (a_Set_Type_Base : List Ty_Type) (a_Set_Type_Count : Int) (a_Set_Space_Dims : List Int) (a_Set_Space_Max : List Int) (a_Set_Chunk : List Int) (a_Set_Filters : List (Int × Int × Bool)) (a_Set_Fill : ByteArray) (a_Set_Index : Int) (a_Data : ByteArray) (a_Attrs : List (ByteArray × Ty_Type × List Int × ByteArray)) (a_Virtual_Type_Kind : Int) (a_Virtual_Type_Size : Int) (a_Virtual_Type_Signed : Bool) (a_Virtual_Type_Big : Bool) (a_Virtual_Type_Names : List ByteArray) (a_Virtual_Type_Nums : List Int) (a_Virtual_Type_Members : List (ByteArray × Int × Ty_Type)) (a_Virtual_Type_Base : List Ty_Type) (a_Virtual_Type_Count : Int) (a_Virtual_Dims : List Int) (a_Virtual_Fill : ByteArray) (a_Virtual_Maps : List (ByteArray × Int × List Int × List Int × List Int × List Int × List (List Int) × Int × List Int × List Int × List Int × List Int × List (List Int))) (b_Id : Int) (b_Kind : Int) (b_Refs : Int) (b_Links : List (ByteArray × Int × ByteArray)) (b_Set_Type_Kind : Int) (b_Set_Type_Size : Int) (b_Set_Type_Signed : Bool) (b_Set_Type_Big : Bool) (b_Set_Type_Names : List ByteArray) (b_Set_Type_Nums : List Int) (b_Set_Type_Members : List (ByteArray × Int × Ty_Type)) (b_Set_Type_Base : List Ty_Type) (b_Set_Type_Count : Int) (b_Set_Space_Dims : List Int) (b_Set_Space_Max : List Int) (b_Set_Chunk : List Int) (b_Set_Filters : List (Int × Int × Bool)) (b_Set_Fill : ByteArray) (b_Set_Index : Int) (b_Data : ByteArray) (b_Attrs : List (ByteArray × Ty_Type × List Int × ByteArray)) (b_Virtual_Type_Kind : Int) (b_Virtual_Type_Size : Int) (b_Virtual_Type_Signed : Bool) (b_Virtual_Type_Big : Bool) (b_Virtual_Type_Names : List ByteArray) (b_Virtual_Type_Nums : List Int) (b_Virtual_Type_Members : List (ByteArray × Int × Ty_Type)) (b_Virtual_Type_Base : List Ty_Type) (b_Virtual_Type_Count : Int) (b_Virtual_Dims : List Int) (b_Virtual_Fill : ByteArray) (b_Virtual_Maps : List (ByteArray × Int × List Int × List Int × List Int × List Int × List (List Int) × Int × List Int × List Int × List Int × List Int × List (List Int))) :
    impl_sameObject a_Id a_Kind a_Refs a_Links a_Set_Type_Kind a_Set_Type_Size a_Set_Type_Signed a_Set_Type_Big a_Set_Type_Names a_Set_Type_Nums a_Set_Type_Members a_Set_Type_Base a_Set_Type_Count a_Set_Space_Dims a_Set_Space_Max a_Set_Chunk a_Set_Filters a_Set_Fill a_Set_Index a_Data a_Attrs a_Virtual_Type_Kind a_Virtual_Type_Size a_Virtual_Type_Signed a_Virtual_Type_Big a_Virtual_Type_Names a_Virtual_Type_Nums a_Virtual_Type_Members a_Virtual_Type_Base a_Virtual_Type_Count a_Virtual_Dims a_Virtual_Fill a_Virtual_Maps b_Id b_Kind b_Refs b_Links b_Set_Type_Kind b_Set_Type_Size b_Set_Type_Signed b_Set_Type_Big b_Set_Type_Names b_Set_Type_Nums b_Set_Type_Members b_Set_Type_Base b_Set_Type_Count b_Set_Space_Dims b_Set_Space_Max b_Set_Chunk b_Set_Filters b_Set_Fill b_Set_Index b_Data b_Attrs b_Virtual_Type_Kind b_Virtual_Type_Size b_Virtual_Type_Signed b_Virtual_Type_Big b_Virtual_Type_Names b_Virtual_Type_Nums b_Virtual_Type_Members b_Virtual_Type_Base b_Virtual_Type_Count b_Virtual_Dims b_Virtual_Fill b_Virtual_Maps = (
      sif ((a_Id == b_Id))
       (sif ((a_Kind == b_Kind))
         (sif ((a_Refs == b_Refs))
           (sbind (slices_Equal_simpl_Link_impl_Link a_Links b_Links) fun r1 =>
            sif (r1)
             (sbind (impl_SameDataset a_Set_Type_Kind a_Set_Type_Size a_Set_Type_Signed a_Set_Type_Big a_Set_Type_Names a_Set_Type_Nums a_Set_Type_Members a_Set_Type_Base a_Set_Type_Count a_Set_Space_Dims a_Set_Space_Max a_Set_Chunk a_Set_Filters a_Set_Fill a_Set_Index b_Set_Type_Kind b_Set_Type_Size b_Set_Type_Signed b_Set_Type_Big b_Set_Type_Names b_Set_Type_Nums b_Set_Type_Members b_Set_Type_Base b_Set_Type_Count b_Set_Space_Dims b_Set_Space_Max b_Set_Chunk b_Set_Filters b_Set_Fill b_Set_Index) fun r2 =>
              sif (r2)
               (sif (seq a_Data b_Data)
                 (sbind (slices_EqualFunc_simpl_Attribute_simpl_Attribute_impl_Attribute_impl_Attribute_dd_SameAttribute a_Attrs b_Attrs) fun r3 =>
                  sif (r3)
                   (sbind (impl_SameVirtual a_Virtual_Type_Kind a_Virtual_Type_Size a_Virtual_Type_Signed a_Virtual_Type_Big a_Virtual_Type_Names a_Virtual_Type_Nums a_Virtual_Type_Members a_Virtual_Type_Base a_Virtual_Type_Count a_Virtual_Dims a_Virtual_Fill a_Virtual_Maps b_Virtual_Type_Kind b_Virtual_Type_Size b_Virtual_Type_Signed b_Virtual_Type_Big b_Virtual_Type_Names b_Virtual_Type_Nums b_Virtual_Type_Members b_Virtual_Type_Base b_Virtual_Type_Count b_Virtual_Dims b_Virtual_Fill b_Virtual_Maps) fun r4 =>
                    some r4) (some false)) (some false)) (some false)) (some false)) (some false)) (some false)) (some false)) := sem_eq (f := 13) (m := 0) rfl (by kernel_rfl)
theorem slices_Equal_simpl_Link_impl_Link_eq (s1 : List (ByteArray × Int × ByteArray)) (s2 : List (ByteArray × Int × ByteArray)) :
    slices_Equal_simpl_Link_impl_Link s1 s2 = (
      sif (((s1.length : Int) != (s2.length : Int))) (some false) <|
      slices_Equal_simpl_Link_impl_Link_l4 s1 s2 (s1.length : Int) 0) := sem_eq (f := 21) (m := 0) rfl (by kernel_rfl)
theorem slices_Equal_simpl_Link_impl_Link_l4_eq (s1 : List (ByteArray × Int × ByteArray)) (s2 : List (ByteArray × Int × ByteArray)) (t12 : Int) (t13 : Int) :
    slices_Equal_simpl_Link_impl_Link_l4 s1 s2 t12 t13 = (
      sif (decide (t13 < t12))
       (sbind (idx s1 t13) fun x1 =>
        sbind (idx s2 t13) fun x2 =>
        sif (!(seq x1.1 x2.1 && ((x1.2.1 == x2.2.1) && seq x1.2.2 x2.2.2))) (some false) <|
        slices_Equal_simpl_Link_impl_Link_l4 s1 s2 t12 (wi64 (t13 + 1))) (some true)) := seml_eq (f := 21) (m := 0) (l := 4) (by kernel_rfl)
theorem impl_SameDataset_eq (a_Type_Kind : Int) (a_Type_Size : Int) (a_Type_Signed : Bool) (a_Type_Big : Bool) (a_Type_Names : List ByteArray) (a_Type_Nums : List Int) (a_Type_Members : List (ByteArray × Int × Ty_Type)) (a_Type_Base : List Ty_Type) (a_Type_Count : Int) (a_Space_Dims : List Int) (a_Space_Max : List Int) (a_Chunk : List Int) (a_Filters : List (Int × Int × Bool)) (a_Fill : ByteArray) (a_Index : Int) (b_Type_Kind : Int) (b_Type_Size : Int) (b_Type_Signed : Bool) (b_Type_Big : Bool) (b_Type_Names : List ByteArray) (b_Type_Nums : List Int) (b_Type_Members : List (ByteArray × Int × Ty_Type)) (b_Type_Base : List Ty_Type) (b_Type_Count : Int) (b_Space_Dims : List Int) (b_Space_Max : List Int) (b_Chunk : List Int) (b_Filters : List (Int × Int × Bool)) (b_Fill : ByteArray) (b_Index : Int) :
    impl_SameDataset a_Type_Kind a_Type_Size a_Type_Signed a_Type_Big a_Type_Names a_Type_Nums a_Type_Members a_Type_Base a_Type_Count a_Space_Dims a_Space_Max a_Chunk a_Filters a_Fill a_Index b_Type_Kind b_Type_Size b_Type_Signed b_Type_Big b_Type_Names b_Type_Nums b_Type_Members b_Type_Base b_Type_Count b_Space_Dims b_Space_Max b_Chunk b_Filters b_Fill b_Index = (
      sbind (impl_SameType a_Type_Kind a_Type_Size a_Type_Signed a_Type_Big a_Type_Names a_Type_Nums a_Type_Members a_Type_Base a_Type_Count b_Type_Kind b_Type_Size b_Type_Signed b_Type_Big b_Type_Names b_Type_Nums b_Type_Members b_Type_Base b_Type_Count) fun r1 =>
      sif (r1)
       (sbind (impl_SameSpace a_Space_Dims a_Space_Max b_Space_Dims b_Space_Max) fun r2 =>
        sif (r2)
         (sbind (slices_Equal_sint64_int64 a_Chunk b_Chunk) fun r3 =>
          sif (r3)
           (sbind (slices_Equal_simpl_Filter_impl_Filter a_Filters b_Filters) fun r4 =>
            sif (r4) (sif (seq a_Fill b_Fill) (some (a_Index == b_Index)) (some false)) (some false)) (some false)) (some false)) (some false)) := sem_eq (f := 22) (m := 0) rfl (by kernel_rfl)
theorem impl_SameType_eq (a_Kind : Int) (a_Size : Int) (a_Signed : Bool) (a_Big : Bool) (a_Names : List ByteArray) (a_Nums : List Int) (a_Members : List (ByteArray × Int × Ty_Type)) (a_Base : List Ty_Type) (a_Count : Int) (b_Kind : Int) (b_Size : Int) (b_Signed : Bool) (b_Big : Bool) (b_Names : List ByteArray) (b_Nums : List Int) (b_Members : List (ByteArray × Int × Ty_Type)) (b_Base : List Ty_Type) (b_Count : Int) :
    impl_SameType a_Kind a_Size a_Signed a_Big a_Names a_Nums a_Members a_Base a_Count b_Kind b_Size b_Signed b_Big b_Names b_Nums b_Members b_Base b_Count = (
      sif ((a_Kind == b_Kind))
       (sif ((a_Size == b_Size))
         (sif ((a_Signed == b_Signed))
           (sif ((a_Big == b_Big))
             (sif ((a_Count == b_Count))
               (sbind (slices_Equal_sstring_string a_Names b_Names) fun r1 =>
                sif (r1)
                 (sbind (slices_Equal_sint64_int64 a_Nums b_Nums) fun r2 =>
                  sif (r2)
                   (sbind (slices_EqualFunc_simpl_Member_simpl_Member_impl_Member_impl_Member_dd_sameMember a_Members b_Members) fun r3 =>
                    sif (r3)
                     (sbind (slices_EqualFunc_simpl_Type_simpl_Type_impl_Type_impl_Type_dd_SameType a_Base b_Base) fun r4 =>
                      some r4) (some false)) (some false)) (some false)) (some false)) (some false)) (some false)) (some false)) (some false)) := sem_eq (f := 42) (m := 0) rfl (by kernel_rfl)
theorem slices_Equal_sstring_string_eq (s1 : List ByteArray) (s2 : List ByteArray) :
    slices_Equal_sstring_string s1 s2 = (
      sif (((s1.length : Int) != (s2.length : Int))) (some false) <|
      slices_Equal_sstring_string_l4 s1 s2 (s1.length : Int) 0) := sem_eq (f := 70) (m := 0) rfl (by kernel_rfl)
theorem slices_Equal_sstring_string_l4_eq (s1 : List ByteArray) (s2 : List ByteArray) (t12 : Int) (t13 : Int) :
    slices_Equal_sstring_string_l4 s1 s2 t12 t13 = (
      sif (decide (t13 < t12))
       (sbind (idx s1 t13) fun x1 =>
        sbind (idx s2 t13) fun x2 =>
        sif (!seq x1 x2) (some false) <|
        slices_Equal_sstring_string_l4 s1 s2 t12 (wi64 (t13 + 1))) (some true)) := seml_eq (f := 70) (m := 0) (l := 4) (by kernel_rfl)
theorem slices_Equal_sint64_int64_eq (s1 : List Int) (s2 : List Int) :
    slices_Equal_sint64_int64 s1 s2 = (
      sif (((s1.length : Int) != (s2.length : Int))) (some false) <|
      slices_Equal_sint64_int64_l4 s1 s2 (s1.length : Int) 0) := sem_eq (f := 44) (m := 0) rfl (by kernel_rfl)
theorem slices_Equal_sint64_int64_l4_eq (s1 : List Int) (s2 : List Int) (t12 : Int) (t13 : Int) :
    slices_Equal_sint64_int64_l4 s1 s2 t12 t13 = (
      sif (decide (t13 < t12))
       (sbind (idx s1 t13) fun x1 =>
        sbind (idx s2 t13) fun x2 =>
        sif ((x1 != x2)) (some false) <|
        slices_Equal_sint64_int64_l4 s1 s2 t12 (wi64 (t13 + 1))) (some true)) := seml_eq (f := 44) (m := 0) (l := 4) (by kernel_rfl)
theorem slices_EqualFunc_simpl_Member_simpl_Member_impl_Member_impl_Member_dd_sameMember_eq (s1 : List (ByteArray × Int × Ty_Type)) (s2 : List (ByteArray × Int × Ty_Type)) :
    slices_EqualFunc_simpl_Member_simpl_Member_impl_Member_impl_Member_dd_sameMember s1 s2 = (
      sif (((s1.length : Int) != (s2.length : Int))) (some false) <|
      slices_EqualFunc_simpl_Member_simpl_Member_impl_Member_impl_Member_dd_sameMember_l4 s2 s1 (s1.length : Int) 0) := sem_eq (f := 71) (m := 0) rfl (by kernel_rfl)
theorem slices_EqualFunc_simpl_Member_simpl_Member_impl_Member_impl_Member_dd_sameMember_l4_eq (s2 : List (ByteArray × Int × Ty_Type)) (t15 : List (ByteArray × Int × Ty_Type)) (t16 : Int) (t17 : Int) :
    slices_EqualFunc_simpl_Member_simpl_Member_impl_Member_impl_Member_dd_sameMember_l4 s2 t15 t16 t17 = (
      sif (decide (t17 < t16))
       (sbind (idx t15 t17) fun x1 =>
        sbind (idx s2 t17) fun x2 =>
        sbind (impl_sameMember x1.1 x1.2.1 x1.2.2.f_Kind x1.2.2.f_Size x1.2.2.f_Signed x1.2.2.f_Big x1.2.2.f_Names x1.2.2.f_Nums x1.2.2.f_Members x1.2.2.f_Base x1.2.2.f_Count x2.1 x2.2.1 x2.2.2.f_Kind x2.2.2.f_Size x2.2.2.f_Signed x2.2.2.f_Big x2.2.2.f_Names x2.2.2.f_Nums x2.2.2.f_Members x2.2.2.f_Base x2.2.2.f_Count) fun r3 =>
        sif (!r3) (some false) <|
        slices_EqualFunc_simpl_Member_simpl_Member_impl_Member_impl_Member_dd_sameMember_l4 s2 t15 t16 (wi64 (t17 + 1))) (some true)) := seml_eq (f := 71) (m := 0) (l := 4) (by kernel_rfl)
theorem impl_sameMember_eq (a_Name : ByteArray) (a_Offset : Int) (a_Type_Kind : Int) (a_Type_Size : Int) (a_Type_Signed : Bool) (a_Type_Big : Bool) (a_Type_Names : List ByteArray) (a_Type_Nums : List Int) (a_Type_Members : List (ByteArray × Int × Ty_Type)) (a_Type_Base : List Ty_Type) (a_Type_Count : Int) (b_Name : ByteArray) (b_Offset : Int) (b_Type_Kind : Int) (b_Type_Size : Int) (b_Type_Signed : Bool) (b_Type_Big : Bool) (b_Type_Names : List ByteArray) (b_Type_Nums : List Int) (b_Type_Members : List (ByteArray × Int × Ty_Type)) (b_Type_Base : List Ty_Type) (b_Type_Count : Int) :
    impl_sameMember a_Name a_Offset a_Type_Kind a_Type_Size a_Type_Signed a_Type_Big a_Type_Names a_Type_Nums a_Type_Members a_Type_Base a_Type_Count b_Name b_Offset b_Type_Kind b_Type_Size b_Type_Signed b_Type_Big b_Type_Names b_Type_Nums b_Type_Members b_Type_Base b_Type_Count = (
      sif (seq a_Name b_Name)
       (sif ((a_Offset == b_Offset))
         (sbind (impl_SameType a_Type_Kind a_Type_Size a_Type_Signed a_Type_Big a_Type_Names a_Type_Nums a_Type_Members a_Type_Base a_Type_Count b_Type_Kind b_Type_Size b_Type_Signed b_Type_Big b_Type_Names b_Type_Nums b_Type_Members b_Type_Base b_Type_Count) fun r1 =>
          some r1) (some false)) (some false)) := sem_eq (f := 72) (m := 0) rfl (by kernel_rfl)
theorem slices_EqualFunc_simpl_Type_simpl_Type_impl_Type_impl_Type_dd_SameType_eq (s1 : List Ty_Type) (s2 : List Ty_Type) :
    slices_EqualFunc_simpl_Type_simpl_Type_impl_Type_impl_Type_dd_SameType s1 s2 = (
      sif (((s1.length : Int) != (s2.length : Int))) (some false) <|
      slices_EqualFunc_simpl_Type_simpl_Type_impl_Type_impl_Type_dd_SameType_l4 s2 s1 (s1.length : Int) 0) := sem_eq (f := 73) (m := 0) rfl (by kernel_rfl)
theorem slices_EqualFunc_simpl_Type_simpl_Type_impl_Type_impl_Type_dd_SameType_l4_eq (s2 : List Ty_Type) (t15 : List Ty_Type) (t16 : Int) (t17 : Int) :
    slices_EqualFunc_simpl_Type_simpl_Type_impl_Type_impl_Type_dd_SameType_l4 s2 t15 t16 t17 = (
      sif (decide (t17 < t16))
       (sbind (idx t15 t17) fun x1 =>
        sbind (idx s2 t17) fun x2 =>
        sbind (impl_SameType x1.f_Kind x1.f_Size x1.f_Signed x1.f_Big x1.f_Names x1.f_Nums x1.f_Members x1.f_Base x1.f_Count x2.f_Kind x2.f_Size x2.f_Signed x2.f_Big x2.f_Names x2.f_Nums x2.f_Members x2.f_Base x2.f_Count) fun r3 =>
        sif (!r3) (some false) <|
        slices_EqualFunc_simpl_Type_simpl_Type_impl_Type_impl_Type_dd_SameType_l4 s2 t15 t16 (wi64 (t17 + 1))) (some true)) := seml_eq (f := 73) (m := 0) (l := 4) (by kernel_rfl)
theorem impl_SameSpace_eq (a_Dims : List Int) (a_Max : List Int) (b_Dims : List Int) (b_Max : List Int) :
    impl_SameSpace a_Dims a_Max b_Dims b_Max = (
      sbind (slices_Equal_sint64_int64 a_Dims b_Dims) fun r1 =>
      sif (r1)
       (sbind (slices_Equal_sint64_int64 a_Max b_Max) fun r2 =>
        some r2) (some false)) := sem_eq (f := 43) (m := 0) rfl (by kernel_rfl)
theorem slices_Equal_simpl_Filter_impl_Filter_eq (s1 : List (Int × Int × Bool)) (s2 : List (Int × Int × Bool)) :
    slices_Equal_simpl_Filter_impl_Filter s1 s2 = (
      sif (((s1.length : Int) != (s2.length : Int))) (some false) <|
      slices_Equal_simpl_Filter_impl_Filter_l4 s1 s2 (s1.length : Int) 0) := sem_eq (f := 45) (m := 0) rfl (by kernel_rfl)
theorem slices_Equal_simpl_Filter_impl_Filter_l4_eq (s1 : List (Int × Int × Bool)) (s2 : List (Int × Int × Bool)) (t12 : Int) (t13 : Int) :
    slices_Equal_simpl_Filter_impl_Filter_l4 s1 s2 t12 t13 = (
      sif (decide (t13 < t12))
       (sbind (idx s1 t13) fun x1 =>
        sbind (idx s2 t13) fun x2 =>
        sif (!((x1.1 == x2.1) && ((x1.2.1 == x2.2.1) && (x1.2.2 == x2.2.2)))) (some false) <|
        slices_Equal_simpl_Filter_impl_Filter_l4 s1 s2 t12 (wi64 (t13 + 1))) (some true)) := seml_eq (f := 45) (m := 0) (l := 4) (by kernel_rfl)
theorem slices_EqualFunc_simpl_Attribute_simpl_Attribute_impl_Attribute_impl_Attribute_dd_SameAttribute_eq (s1 : List (ByteArray × Ty_Type × List Int × ByteArray)) (s2 : List (ByteArray × Ty_Type × List Int × ByteArray)) :
    slices_EqualFunc_simpl_Attribute_simpl_Attribute_impl_Attribute_impl_Attribute_dd_SameAttribute s1 s2 = (
      sif (((s1.length : Int) != (s2.length : Int))) (some false) <|
      slices_EqualFunc_simpl_Attribute_simpl_Attribute_impl_Attribute_impl_Attribute_dd_SameAttribute_l4 s2 s1 (s1.length : Int) 0) := sem_eq (f := 23) (m := 0) rfl (by kernel_rfl)
theorem slices_EqualFunc_simpl_Attribute_simpl_Attribute_impl_Attribute_impl_Attribute_dd_SameAttribute_l4_eq (s2 : List (ByteArray × Ty_Type × List Int × ByteArray)) (t15 : List (ByteArray × Ty_Type × List Int × ByteArray)) (t16 : Int) (t17 : Int) :
    slices_EqualFunc_simpl_Attribute_simpl_Attribute_impl_Attribute_impl_Attribute_dd_SameAttribute_l4 s2 t15 t16 t17 = (
      sif (decide (t17 < t16))
       (sbind (idx t15 t17) fun x1 =>
        sbind (idx s2 t17) fun x2 =>
        sbind (impl_SameAttribute x1.1 x1.2.1.f_Kind x1.2.1.f_Size x1.2.1.f_Signed x1.2.1.f_Big x1.2.1.f_Names x1.2.1.f_Nums x1.2.1.f_Members x1.2.1.f_Base x1.2.1.f_Count x1.2.2.1 x1.2.2.2 x2.1 x2.2.1.f_Kind x2.2.1.f_Size x2.2.1.f_Signed x2.2.1.f_Big x2.2.1.f_Names x2.2.1.f_Nums x2.2.1.f_Members x2.2.1.f_Base x2.2.1.f_Count x2.2.2.1 x2.2.2.2) fun r3 =>
        sif (!r3) (some false) <|
        slices_EqualFunc_simpl_Attribute_simpl_Attribute_impl_Attribute_impl_Attribute_dd_SameAttribute_l4 s2 t15 t16 (wi64 (t17 + 1))) (some true)) := seml_eq (f := 23) (m := 0) (l := 4) (by kernel_rfl)
theorem impl_SameAttribute_eq (a_Name : ByteArray) (a_Value_Type_Kind : Int) (a_Value_Type_Size : Int) (a_Value_Type_Signed : Bool) (a_Value_Type_Big : Bool) (a_Value_Type_Names : List ByteArray) (a_Value_Type_Nums : List Int) (a_Value_Type_Members : List (ByteArray × Int × Ty_Type)) (a_Value_Type_Base : List Ty_Type) (a_Value_Type_Count : Int) (a_Value_Dims : List Int) (a_Value_Data : ByteArray) (b_Name : ByteArray) (b_Value_Type_Kind : Int) (b_Value_Type_Size : Int) (b_Value_Type_Signed : Bool) (b_Value_Type_Big : Bool) (b_Value_Type_Names : List ByteArray) (b_Value_Type_Nums : List Int) (b_Value_Type_Members : List (ByteArray × Int × Ty_Type)) (b_Value_Type_Base : List Ty_Type) (b_Value_Type_Count : Int) (b_Value_Dims : List Int) (b_Value_Data : ByteArray) :
    impl_SameAttribute a_Name a_Value_Type_Kind a_Value_Type_Size a_Value_Type_Signed a_Value_Type_Big a_Value_Type_Names a_Value_Type_Nums a_Value_Type_Members a_Value_Type_Base a_Value_Type_Count a_Value_Dims a_Value_Data b_Name b_Value_Type_Kind b_Value_Type_Size b_Value_Type_Signed b_Value_Type_Big b_Value_Type_Names b_Value_Type_Nums b_Value_Type_Members b_Value_Type_Base b_Value_Type_Count b_Value_Dims b_Value_Data = (
      sif (seq a_Name b_Name)
       (sbind (impl_SameArray a_Value_Type_Kind a_Value_Type_Size a_Value_Type_Signed a_Value_Type_Big a_Value_Type_Names a_Value_Type_Nums a_Value_Type_Members a_Value_Type_Base a_Value_Type_Count a_Value_Dims a_Value_Data b_Value_Type_Kind b_Value_Type_Size b_Value_Type_Signed b_Value_Type_Big b_Value_Type_Names b_Value_Type_Nums b_Value_Type_Members b_Value_Type_Base b_Value_Type_Count b_Value_Dims b_Value_Data) fun r1 =>
        some r1) (some false)) := sem_eq (f := 24) (m := 0) rfl (by kernel_rfl)
theorem impl_SameArray_eq (a_Type_Kind : Int) (a_Type_Size : Int) (a_Type_Signed : Bool) (a_Type_Big : Bool) (a_Type_Names : List ByteArray) (a_Type_Nums : List Int) (a_Type_Members : List (ByteArray × Int × Ty_Type)) (a_Type_Base : List Ty_Type) (a_Type_Count : Int) (a_Dims : List Int) (a_Data : ByteArray) (b_Type_Kind : Int) (b_Type_Size : Int) (b_Type_Signed : Bool) (b_Type_Big : Bool) (b_Type_Names : List ByteArray) (b_Type_Nums : List Int) (b_Type_Members : List (ByteArray × Int × Ty_Type)) (b_Type_Base : List Ty_Type) (b_Type_Count : Int) (b_Dims : List Int) (b_Data : ByteArray) :
    impl_SameArray a_Type_Kind a_Type_Size a_Type_Signed a_Type_Big a_Type_Names a_Type_Nums a_Type_Members a_Type_Base a_Type_Count a_Dims a_Data b_Type_Kind b_Type_Size b_Type_Signed b_Type_Big b_Type_Names b_Type_Nums b_Type_Members b_Type_Base b_Type_Count b_Dims b_Data = (
      sbind (impl_SameType a_Type_Kind a_Type_Size a_Type_Signed a_Type_Big a_Type_Names a_Type_Nums a_Type_Members a_Type_Base a_Type_Count b_Type_Kind b_Type_Size b_Type_Signed b_Type_Big b_Type_Names b_Type_Nums b_Type_Members b_Type_Base b_Type_Count) fun r1 =>
      sif (r1)
       (sbind (slices_Equal_sint64_int64 a_Dims b_Dims) fun r2 =>
        sif (r2) (some (seq a_Data b_Data)) (some false)) (some false)) := sem_eq (f := 46) (m := 0) rfl (by kernel_rfl)
theorem impl_SameVirtual_eq (a_Type_Kind : Int) (a_Type_Size : Int) (a_Type_Signed : Bool) (a_Type_Big : Bool) (a_Type_Names : List ByteArray) (a_Type_Nums : List Int) (a_Type_Members : List (ByteArray × Int × Ty_Type)) (a_Type_Base : List Ty_Type) (a_Type_Count : Int) (a_Dims : List Int) (a_Fill : ByteArray) (a_Maps : List (ByteArray × Int × List Int × List Int × List Int × List Int × List (List Int) × Int × List Int × List Int × List Int × List Int × List (List Int))) (b_Type_Kind : Int) (b_Type_Size : Int) (b_Type_Signed : Bool) (b_Type_Big : Bool) (b_Type_Names : List ByteArray) (b_Type_Nums : List Int) (b_Type_Members : List (ByteArray × Int × Ty_Type)) (b_Type_Base : List Ty_Type) (b_Type_Count : Int) (b_Dims : List Int) (b_Fill : ByteArray) (b_Maps : List (ByteArray × Int × List Int × List Int × List Int × List Int × List (List Int) × Int × List Int × List Int × List Int × List Int × List (List Int))) :
    impl_SameVirtual a_Type_Kind a_Type_Size a_Type_Signed a_Type_Big a_Type_Names a_Type_Nums a_Type_Members a_Type_Base a_Type_Count a_Dims a_Fill a_Maps b_Type_Kind b_Type_Size b_Type_Signed b_Type_Big b_Type_Names b_Type_Nums b_Type_Members b_Type_Base b_Type_Count b_Dims b_Fill b_Maps = (
      sbind (impl_SameType a_Type_Kind a_Type_Size a_Type_Signed a_Type_Big a_Type_Names a_Type_Nums a_Type_Members a_Type_Base a_Type_Count b_Type_Kind b_Type_Size b_Type_Signed b_Type_Big b_Type_Names b_Type_Nums b_Type_Members b_Type_Base b_Type_Count) fun r1 =>
      sif (r1)
       (sbind (slices_Equal_sint64_int64 a_Dims b_Dims) fun r2 =>
        sif (r2)
         (sif (seq a_Fill b_Fill)
           (sbind (slices_EqualFunc_simpl_Mapping_simpl_Mapping_impl_Mapping_impl_Mapping_dd_sameMapping a_Maps b_Maps) fun r3 =>
            some r3) (some false)) (some false)) (some false)) := sem_eq (f := 25) (m := 0) rfl (by kernel_rfl)
theorem slices_EqualFunc_simpl_Mapping_simpl_Mapping_impl_Mapping_impl_Mapping_dd_sameMapping_eq (s1 : List (ByteArray × Int × List Int × List Int × List Int × List Int × List (List Int) × Int × List Int × List Int × List Int × List Int × List (List Int))) (s2 : List (ByteArray × Int × List Int × List Int × List Int × List Int × List (List Int) × Int × List Int × List Int × List Int × List Int × List (List Int))) :
    slices_EqualFunc_simpl_Mapping_simpl_Mapping_impl_Mapping_impl_Mapping_dd_sameMapping s1 s2 = (
      sif (((s1.length : Int) != (s2.length : Int))) (some false) <|
      slices_EqualFunc_simpl_Mapping_simpl_Mapping_impl_Mapping_impl_Mapping_dd_sameMapping_l4 s2 s1 (s1.length : Int) 0) := sem_eq (f := 47) (m := 0) rfl (by kernel_rfl)
theorem slices_EqualFunc_simpl_Mapping_simpl_Mapping_impl_Mapping_impl_Mapping_dd_sameMapping_l4_eq (s2 : List (ByteArray × Int × List Int × List Int × List Int × List Int × List (List Int) × Int × List Int × List Int × List Int × List Int × List (List Int))) (t15 : List (ByteArray × Int × List Int × List Int × List Int × List Int × List (List Int) × Int × List Int × List Int × List Int × List Int × List (List Int))) (t16 : Int) (t17 : Int) :
    slices_EqualFunc_simpl_Mapping_simpl_Mapping_impl_Mapping_impl_Mapping_dd_sameMapping_l4 s2 t15 t16 t17 = (
      sif (decide (t17 < t16))
       (sbind (idx t15 t17) fun x1 =>
        sbind (idx s2 t17) fun x2 =>
        sbind (impl_sameMapping x1.1 x1.2.1 x1.2.2.1 x1.2.2.2.1 x1.2.2.2.2.1 x1.2.2.2.2.2.1 x1.2.2.2.2.2.2.1 x1.2.2.2.2.2.2.2.1 x1.2.2.2.2.2.2.2.2.1 x1.2.2.2.2.2.2.2.2.2.1 x1.2.2.2.2.2.2.2.2.2.2.1 x1.2.2.2.2.2.2.2.2.2.2.2.1 x1.2.2.2.2.2.2.2.2.2.2.2.2 x2.1 x2.2.1 x2.2.2.1 x2.2.2.2.1 x2.2.2.2.2.1 x2.2.2.2.2.2.1 x2.2.2.2.2.2.2.1 x2.2.2.2.2.2.2.2.1 x2.2.2.2.2.2.2.2.2.1 x2.2.2.2.2.2.2.2.2.2.1 x2.2.2.2.2.2.2.2.2.2.2.1 x2.2.2.2.2.2.2.2.2.2.2.2.1 x2.2.2.2.2.2.2.2.2.2.2.2.2) fun r3 =>
        sif (!r3) (some false) <|
        slices_EqualFunc_simpl_Mapping_simpl_Mapping_impl_Mapping_impl_Mapping_dd_sameMapping_l4 s2 t15 t16 (wi64 (t17 + 1))) (some true)) := seml_eq (f := 47) (m := 0) (l := 4) (by kernel_rfl)
theorem impl_sameMapping_eq (a_Path : ByteArray) (a_Source_Kind : Int) (a_Source_Start : List Int) (a_Source_Stride : List Int) (a_Source_Count : List Int) (a_Source_Block : List Int) (a_Source_Points : List (List Int)) (a_Target_Kind : Int) (a_Target_Start : List Int) (a_Target_Stride : List Int) (a_Target_Count : List Int) (a_Target_Block : List Int) (a_Target_Points : List (List Int)) (b_Path : ByteArray) (b_Source_Kind : Int) (b_Source_Start : List Int) (b_Source_Stride : List Int) (b_Source_Count : List Int) (b_Source_Block : List Int) (b_Source_Points : List (List Int)) (b_Target_Kind : Int) (b_Target_Start : List Int) (b_Target_Stride : List Int) (b_Target_Count : List Int) (b_Target_Block : List Int) (b_Target_Points : List (List Int)) :
    impl_sameMapping a_Path a_Source_Kind a_Source_Start a_Source_Stride a_Source_Count a_Source_Block a_Source_Points a_Target_Kind a_Target_Start a_Target_Stride a_Target_Count a_Target_Block a_Target_Points b_Path b_Source_Kind b_Source_Start b_Source_Stride b_Source_Count b_Source_Block b_Source_Points b_Target_Kind b_Target_Start b_Target_Stride b_Target_Count b_Target_Block b_Target_Points = (
      sif (seq a_Path b_Path)
       (sbind (impl_SameSelection a_Source_Kind a_Source_Start a_Source_Stride a_Source_Count a_Source_Block a_Source_Points b_Source_Kind b_Source_Start b_Source_Stride b_Source_Count b_Source_Block b_Source_Points) fun r1 =>
        sif (r1)
         (sbind (impl_SameSelection a_Target_Kind a_Target_Start a_Target_Stride a_Target_Count a_Target_Block a_Target_Points b_Target_Kind b_Target_Start b_Target_Stride b_Target_Count b_Target_Block b_Target_Points) fun r2 =>
          some r2) (some false)) (some false)) := sem_eq (f := 48) (m := 0) rfl (by kernel_rfl)
theorem impl_SameSelection_eq (a_Kind : Int) (a_Start : List Int) (a_Stride : List Int) (a_Count : List Int) (a_Block : List Int) (a_Points : List (List Int)) (b_Kind : Int) (b_Start : List Int) (b_Stride : List Int) (b_Count : List Int) (b_Block : List Int) (b_Points : List (List Int)) :
    impl_SameSelection a_Kind a_Start a_Stride a_Count a_Block a_Points b_Kind b_Start b_Stride b_Count b_Block b_Points = (
      sif ((a_Kind == b_Kind))
       (sbind (impl_Selection_lists a_Kind a_Start a_Stride a_Count a_Block a_Points) fun r1 =>
        sbind (impl_Selection_lists b_Kind b_Start b_Stride b_Count b_Block b_Points) fun r2 =>
        sbind (slices_EqualFunc_ssint64_ssint64_sint64_sint64_dd_Equal_sint64_int64 r1 r2) fun r3 =>
        sif (r3)
         (sbind (slices_EqualFunc_simpl_Point_simpl_Point_impl_Point_impl_Point_dd_samePoint a_Points b_Points) fun r4 =>
          some r4) (some false)) (some false)) := sem_eq (f := 74) (m := 0) rfl (by kernel_rfl)
theorem impl_Selection_lists_eq (s_Kind : Int) (s_Start : List Int) (s_Stride : List Int) (s_Count : List Int) (s_Block : List Int) (s_Points : List (List Int)) :
    impl_Selection_lists s_Kind s_Start s_Stride s_Count s_Block s_Points = (
      some [s_Start, s_Stride, s_Count, s_Block]) := sem_eq (f := 94) (m := 0) rfl (by kernel_rfl)
theorem slices_EqualFunc_ssint64_ssint64_sint64_sint64_dd_Equal_sint64_int64_eq (s1 : List (List Int)) (s2 : List (List Int)) :
    slices_EqualFunc_ssint64_ssint64_sint64_sint64_dd_Equal_sint64_int64 s1 s2 = (
      sif (((s1.length : Int) != (s2.length : Int))) (some false) <|
      slices_EqualFunc_ssint64_ssint64_sint64_sint64_dd_Equal_sint64_int64_l4 s2 s1 (s1.length : Int) 0) := sem_eq (f := 93) (m := 0) rfl (by kernel_rfl)
theorem slices_EqualFunc_ssint64_ssint64_sint64_sint64_dd_Equal_sint64_int64_l4_eq (s2 : List (List Int)) (t15 : List (List Int)) (t16 : Int) (t17 : Int) :
    slices_EqualFunc_ssint64_ssint64_sint64_sint64_dd_Equal_sint64_int64_l4 s2 t15 t16 t17 = (
      sif (decide (t17 < t16))
       (sbind (idx t15 t17) fun x1 =>
        sbind (idx s2 t17) fun x2 =>
        sbind (slices_Equal_sint64_int64 x1 x2) fun r3 =>
        sif (!r3) (some false) <|
        slices_EqualFunc_ssint64_ssint64_sint64_sint64_dd_Equal_sint64_int64_l4 s2 t15 t16 (wi64 (t17 + 1))) (some true)) := seml_eq (f := 93) (m := 0) (l := 4) (by kernel_rfl)
theorem slices_EqualFunc_simpl_Point_simpl_Point_impl_Point_impl_Point_dd_samePoint_eq (s1 : List (List Int)) (s2 : List (List Int)) :
    slices_EqualFunc_simpl_Point_simpl_Point_impl_Point_impl_Point_dd_samePoint s1 s2 = (
      sif (((s1.length : Int) != (s2.length : Int))) (some false) <|
      slices_EqualFunc_simpl_Point_simpl_Point_impl_Point_impl_Point_dd_samePoint_l4 s2 s1 (s1.length : Int) 0) := sem_eq (f := 95) (m := 0) rfl (by kernel_rfl)
theorem slices_EqualFunc_simpl_Point_simpl_Point_impl_Point_impl_Point_dd_samePoint_l4_eq (s2 : List (List Int)) (t15 : List (List Int)) (t16 : Int) (t17 : Int) :
    slices_EqualFunc_simpl_Point_simpl_Point_impl_Point_impl_Point_dd_samePoint_l4 s2 t15 t16 t17 = (
      sif (decide (t17 < t16))
       (sbind (idx t15 t17) fun x1 =>
        sbind (idx s2 t17) fun x2 =>
        sbind (impl_samePoint x1 x2) fun r3 =>
        sif (!r3) (some false) <|
        slices_EqualFunc_simpl_Point_simpl_Point_impl_Point_impl_Point_dd_samePoint_l4 s2 t15 t16 (wi64 (t17 + 1))) (some true)) := seml_eq (f := 95) (m := 0) (l := 4) (by kernel_rfl)
theorem impl_samePoint_eq (a_At : List Int) (b_At : List Int) :
    impl_samePoint a_At b_At = (
      sbind (slices_Equal_sint64_int64 a_At b_At) fun r1 =>
      some r1) := sem_eq (f := 96) (m := 0) rfl (by kernel_rfl)
theorem laws_eqPlain_eq (a_Objects : List (Int × Int × Int × List (ByteArray × Int × ByteArray) × Ty_Type × List Int × List Int × List Int × List (Int × Int × Bool) × ByteArray × Int × ByteArray × List (ByteArray × Ty_Type × List Int × ByteArray) × Ty_Type × List Int × ByteArray × List (ByteArray × Int × List Int × List Int × List Int × List Int × List (List Int) × Int × List Int × List Int × List Int × List Int × List (List Int)))) (b_Objects : List (Int × Int × Int × List (ByteArray × Int × ByteArray) × Ty_Type × List Int × List Int × List Int × List (Int × Int × Bool) × ByteArray × Int × ByteArray × List (ByteArray × Ty_Type × List Int × ByteArray) × Ty_Type × List Int × ByteArray × List (ByteArray × Int × List Int × List Int × List Int × List Int × List (List Int) × Int × List Int × List Int × List Int × List Int × List (List Int)))) :
    laws_eqPlain a_Objects b_Objects = (
      sbind (laws_eqPlainObjectS a_Objects b_Objects) fun r1 =>
      sif (!r1) (some false) (some true)) := sem_eq (f := 8) (m := 0) rfl (by kernel_rfl)
theorem laws_eqPlainObjectS_eq (a : List (Int × Int × Int × List (ByteArray × Int × ByteArray) × Ty_Type × List Int × List Int × List Int × List (Int × Int × Bool) × ByteArray × Int × ByteArray × List (ByteArray × Ty_Type × List Int × ByteArray) × Ty_Type × List Int × ByteArray × List (ByteArray × Int × List Int × List Int × List Int × List Int × List (List Int) × Int × List Int × List Int × List Int × List Int × List (List Int)))) (b : List (Int × Int × Int × List (ByteArray × Int × ByteArray) × Ty_Type × List Int × List Int × List Int × List (Int × Int × Bool) × ByteArray × Int × ByteArray × List (ByteArray × Ty_Type × List Int × ByteArray) × Ty_Type × List Int × ByteArray × List (ByteArray × Int × List Int × List Int × List Int × List Int × List (List Int) × Int × List Int × List Int × List Int × List Int × List (List Int)))) :
    laws_eqPlainObjectS a b = (
      sif (((a.length : Int) != (b.length : Int))) (some false) (laws_eqPlainObjectS_l4 a b 0)) := sem_eq (f := 14) (m := 0) rfl (by kernel_rfl)
theorem laws_eqPlainObjectS_l4_eq (a : List (Int × Int × Int × List (ByteArray × Int × ByteArray) × Ty_Type × List Int × List Int × List Int × List (Int × Int × Bool) × ByteArray × Int × ByteArray × List (ByteArray × Ty_Type × List Int × ByteArray) × Ty_Type × List Int × ByteArray × List (ByteArray × Int × List Int × List Int × List Int × List Int × List (List Int) × Int × List Int × List Int × List Int × List Int × List (List Int)))) (b : List (Int × Int × Int × List (ByteArray × Int × ByteArray) × Ty_Type × List Int × List Int × List Int × List (Int × Int × Bool) × ByteArray × Int × ByteArray × List (ByteArray × Ty_Type × List Int × ByteArray) × Ty_Type × List Int × ByteArray × List (ByteArray × Int × List Int × List Int × List Int × List Int × List (List Int) × Int × List Int × List Int × List Int × List Int × List (List Int)))) (i : Int) :
    laws_eqPlainObjectS_l4 a b i = (
      sif (decide (i < (a.length : Int)))
       (sbind (idx a i) fun x1 =>
        sbind (idx b i) fun x2 =>
        sbind (laws_eqPlainObject x1.1 x1.2.1 x1.2.2.1 x1.2.2.2.1 x1.2.2.2.2.1.f_Kind x1.2.2.2.2.1.f_Size x1.2.2.2.2.1.f_Signed x1.2.2.2.2.1.f_Big x1.2.2.2.2.1.f_Names x1.2.2.2.2.1.f_Nums x1.2.2.2.2.1.f_Members x1.2.2.2.2.1.f_Base x1.2.2.2.2.1.f_Count x1.2.2.2.2.2.1 x1.2.2.2.2.2.2.1 x1.2.2.2.2.2.2.2.1 x1.2.2.2.2.2.2.2.2.1 x1.2.2.2.2.2.2.2.2.2.1 x1.2.2.2.2.2.2.2.2.2.2.1 x1.2.2.2.2.2.2.2.2.2.2.2.1 x1.2.2.2.2.2.2.2.2.2.2.2.2.1 x1.2.2.2.2.2.2.2.2.2.2.2.2.2.1.f_Kind x1.2.2.2.2.2.2.2.2.2.2.2.2.2.1.f_Size x1.2.2.2.2.2.2.2.2.2.2.2.2.2.1.f_Signed x1.2.2.2.2.2.2.2.2.2.2.2.2.2.1.f_Big x1.2.2.2.2.2.2.2.2.2.2.2.2.2.1.f_Names x1.2.2.2.2.2.2.2.2.2.2.2.2.2.1.f_Nums x1.2.2.2.2.2.2.2.2.2.2.2.2.2.1.f_Members x1.2.2.2.2.2.2.2.2.2.2.2.2.2.1.f_Base x1.2.2.2.2.2.2.2.2.2.2.2.2.2.1.f_Count x1.2.2.2.2.2.2.2.2.2.2.2.2.2.2.1 x1.2.2.2.2.2.2.2.2.2.2.2.2.2.2.2.1 x1.2.2.2.2.2.2.2.2.2.2.2.2.2.2.2.2 x2.1 x2.2.1 x2.2.2.1 x2.2.2.2.1 x2.2.2.2.2.1.f_Kind x2.2.2.2.2.1.f_Size x2.2.2.2.2.1.f_Signed x2.2.2.2.2.1.f_Big x2.2.2.2.2.1.f_Names x2.2.2.2.2.1.f_Nums x2.2.2.2.2.1.f_Members x2.2.2.2.2.1.f_Base x2.2.2.2.2.1.f_Count x2.2.2.2.2.2.1 x2.2.2.2.2.2.2.1 x2.2.2.2.2.2.2.2.1 x2.2.2.2.2.2.2.2.2.1 x2.2.2.2.2.2.2.2.2.2.1 x2.2.2.2.2.2.2.2.2.2.2.1 x2.2.2.2.2.2.2.2.2.2.2.2.1 x2.2.2.2.2.2.2.2.2.2.2.2.2.1 x2.2.2.2.2.2.2.2.2.2.2.2.2.2.1.f_Kind x2.2.2.2.2.2.2.2.2.2.2.2.2.2.1.f_Size x2.2.2.2.2.2.2.2.2.2.2.2.2.2.1.f_Signed x2.2.2.2.2.2.2.2.2.2.2.2.2.2.1.f_Big x2.2.2.2.2.2.2.2.2.2.2.2.2.2.1.f_Names x2.2.2.2.2.2.2.2.2.2.2.2.2.2.1.f_Nums x2.2.2.2.2.2.2.2.2.2.2.2.2.2.1.f_Members x2.2.2.2.2.2.2.2.2.2.2.2.2.2.1.f_Base x2.2.2.2.2.2.2.2.2.2.2.2.2.2.1.f_Count x2.2.2.2.2.2.2.2.2.2.2.2.2.2.2.1 x2.2.2.2.2.2.2.2.2.2.2.2.2.2.2.2.1 x2.2.2.2.2.2.2.2.2.2.2.2.2.2.2.2.2) fun r3 =>
        sif (!r3) (some false) (laws_eqPlainObjectS_l4 a b (wi64 (i + 1)))) (some true)) := seml_eq (f := 14) (m := 0) (l := 4) (by kernel_rfl)
theorem laws_eqPlainObject_eq (a_Id : Int) (a_Kind : Int) (a_Refs : Int) (a_Links : List (ByteArray × Int × ByteArray)) (a_Set_Type_Kind : Int) (a_Set_Type_Size : Int) (a_Set_Type_Signed : Bool) (a_Set_Type_Big : Bool) (a_Set_Type_Names : List ByteArray) (a_Set_Type_Nums : List Int) (a_Set_Type_Members : List (ByteArray × Int × Ty_Type)) (a_Set_Type_Base : List Ty_Type) (a_Set_Type_Count : Int) (a_Set_Space_Dims : List Int) (a_Set_Space_Max : List Int) (a_Set_Chunk : List Int) (a_Set_Filters : List (Int × Int × Bool)) (a_Set_Fill : ByteArray) (a_Set_Index : Int) (a_Data : ByteArray) (a_Attrs : List (ByteArray × Ty_Type × List Int × ByteArray)) (a_Virtual_Type_Kind : Int) (a_Virtual_Type_Size : Int) (a_Virtual_Type_Signed : Bool) (a_Virtual_Type_Big : Bool) (a_Virtual_Type_Names : List ByteArray) (a_Virtual_Type_Nums : List Int) (a_Virtual_Type_Members : List (ByteArray × Int × Ty_Type)) (a_Virtual_Type_Base : List Ty_Type) (a_Virtual_Type_Count : Int) (a_Virtual_Dims : List Int) (a_Virtual_Fill : ByteArray) (a_Virtual_Maps : List (ByteArray × Int × List Int × List Int × List Int × List Int × List (List Int) × Int × List Int × List Int × List Int × List Int × List (List Int))) (b_Id : Int) (b_Kind : Int) (b_Refs : Int) (b_Links : List (ByteArray × Int × ByteArray)) (b_Set_Type_Kind : Int) (b_Set_Type_Size : Int) (b_Set_Type_Signed : Bool) (b_Set_Type_Big : Bool) (b_Set_Type_Names : List ByteArray) (b_Set_Type_Nums : List Int) (b_Set_Type_Members : List (ByteArray × Int × Ty_Type)) (b_Set_Type_Base : List Ty_Type) (b_Set_Type_Count : Int) (b_Set_Space_Dims : List Int) (b_Set_Space_Max : List Int) (b_Set_Chunk : List Int) (b_Set_Filters : List (Int × Int × Bool)) (b_Set_Fill : ByteArray) (b_Set_Index : Int) (b_Data : ByteArray) (b_Attrs : List (ByteArray × Ty_Type × List Int × ByteArray)) (b_Virtual_Type_Kind : Int) (b_Virtual_Type_Size : Int) (b_Virtual_Type_Signed : Bool) (b_Virtual_Type_Big : Bool) (b_Virtual_Type_Names : List ByteArray) (b_Virtual_Type_Nums : List Int) (b_Virtual_Type_Members : List (ByteArray × Int × Ty_Type)) (b_Virtual_Type_Base : List Ty_Type) (b_Virtual_Type_Count : Int) (b_Virtual_Dims : List Int) (b_Virtual_Fill : ByteArray) (b_Virtual_Maps : List (ByteArray × Int × List Int × List Int × List Int × List Int × List (List Int) × Int × List Int × List Int × List Int × List Int × List (List Int))) :
    laws_eqPlainObject a_Id a_Kind a_Refs a_Links a_Set_Type_Kind a_Set_Type_Size a_Set_Type_Signed a_Set_Type_Big a_Set_Type_Names a_Set_Type_Nums a_Set_Type_Members a_Set_Type_Base a_Set_Type_Count a_Set_Space_Dims a_Set_Space_Max a_Set_Chunk a_Set_Filters a_Set_Fill a_Set_Index a_Data a_Attrs a_Virtual_Type_Kind a_Virtual_Type_Size a_Virtual_Type_Signed a_Virtual_Type_Big a_Virtual_Type_Names a_Virtual_Type_Nums a_Virtual_Type_Members a_Virtual_Type_Base a_Virtual_Type_Count a_Virtual_Dims a_Virtual_Fill a_Virtual_Maps b_Id b_Kind b_Refs b_Links b_Set_Type_Kind b_Set_Type_Size b_Set_Type_Signed b_Set_Type_Big b_Set_Type_Names b_Set_Type_Nums b_Set_Type_Members b_Set_Type_Base b_Set_Type_Count b_Set_Space_Dims b_Set_Space_Max b_Set_Chunk b_Set_Filters b_Set_Fill b_Set_Index b_Data b_Attrs b_Virtual_Type_Kind b_Virtual_Type_Size b_Virtual_Type_Signed b_Virtual_Type_Big b_Virtual_Type_Names b_Virtual_Type_Nums b_Virtual_Type_Members b_Virtual_Type_Base b_Virtual_Type_Count b_Virtual_Dims b_Virtual_Fill b_Virtual_Maps = (
      sif ((a_Id != b_Id)) (some false) <|
      sif ((a_Kind != b_Kind)) (some false) <|
      sif ((a_Refs != b_Refs)) (some false) <|
      sbind (laws_eqLinkS a_Links b_Links) fun r1 =>
      sif (!r1) (some false) <|
      sbind (laws_eqDataset a_Set_Type_Kind a_Set_Type_Size a_Set_Type_Signed a_Set_Type_Big a_Set_Type_Names a_Set_Type_Nums a_Set_Type_Members a_Set_Type_Base a_Set_Type_Count a_Set_Space_Dims a_Set_Space_Max a_Set_Chunk a_Set_Filters a_Set_Fill a_Set_Index b_Set_Type_Kind b_Set_Type_Size b_Set_Type_Signed b_Set_Type_Big b_Set_Type_Names b_Set_Type_Nums b_Set_Type_Members b_Set_Type_Base b_Set_Type_Count b_Set_Space_Dims b_Set_Space_Max b_Set_Chunk b_Set_Filters b_Set_Fill b_Set_Index) fun r2 =>
      sif (!r2) (some false) <|
      sif (!seq a_Data b_Data) (some false) <|
      sbind (laws_eqAttributeS a_Attrs b_Attrs) fun r3 =>
      sif (!r3) (some false) <|
      sbind (laws_eqVirtual a_Virtual_Type_Kind a_Virtual_Type_Size a_Virtual_Type_Signed a_Virtual_Type_Big a_Virtual_Type_Names a_Virtual_Type_Nums a_Virtual_Type_Members a_Virtual_Type_Base a_Virtual_Type_Count a_Virtual_Dims a_Virtual_Fill a_Virtual_Maps b_Virtual_Type_Kind b_Virtual_Type_Size b_Virtual_Type_Signed b_Virtual_Type_Big b_Virtual_Type_Names b_Virtual_Type_Nums b_Virtual_Type_Members b_Virtual_Type_Base b_Virtual_Type_Count b_Virtual_Dims b_Virtual_Fill b_Virtual_Maps) fun r4 =>
      sif (!r4) (some false) (some true)) := sem_eq (f := 26) (m := 0) rfl (by kernel_rfl)
theorem laws_eqLinkS_eq (a : List (ByteArray × Int × ByteArray)) (b : List (ByteArray × Int × ByteArray)) :
    laws_eqLinkS a b = (
      sif (((a.length : Int) != (b.length : Int))) (some false) (laws_eqLinkS_l4 a b 0)) := sem_eq (f := 49) (m := 0) rfl (by kernel_rfl)
theorem laws_eqLinkS_l4_eq (a : List (ByteArray × Int × ByteArray)) (b : List (ByteArray × Int × ByteArray)) (i : Int) :
    laws_eqLinkS_l4 a b i = (
      sif (decide (i < (a.length : Int)))
       (sbind (idx a i) fun x1 =>
        sbind (idx b i) fun x2 =>
        sbind (laws_eqLink x1.1 x1.2.1 x1.2.2 x2.1 x2.2.1 x2.2.2) fun r3 =>
        sif (!r3) (some false) (laws_eqLinkS_l4 a b (wi64 (i + 1)))) (some true)) := seml_eq (f := 49) (m := 0) (l := 4) (by kernel_rfl)
theorem laws_eqLink_eq (a_Name : ByteArray) (a_Target : Int) (a_Path : ByteArray) (b_Name : ByteArray) (b_Target : Int) (b_Path : ByteArray) :
    laws_eqLink a_Name a_Target a_Path b_Name b_Target b_Path = (
      sif (!seq a_Name b_Name) (some false) <|
      sif ((a_Target != b_Target)) (some false) (sif (!seq a_Path b_Path) (some false) (some true))) := sem_eq (f := 75) (m := 0) rfl (by kernel_rfl)
theorem laws_eqDataset_eq (a_Type_Kind : Int) (a_Type_Size : Int) (a_Type_Signed : Bool) (a_Type_Big : Bool) (a_Type_Names : List ByteArray) (a_Type_Nums : List Int) (a_Type_Members : List (ByteArray × Int × Ty_Type)) (a_Type_Base : List Ty_Type) (a_Type_Count : Int) (a_Space_Dims : List Int) (a_Space_Max : List Int) (a_Chunk : List Int) (a_Filters : List (Int × Int × Bool)) (a_Fill : ByteArray) (a_Index : Int) (b_Type_Kind : Int) (b_Type_Size : Int) (b_Type_Signed : Bool) (b_Type_Big : Bool) (b_Type_Names : List ByteArray) (b_Type_Nums : List Int) (b_Type_Members : List (ByteArray × Int × Ty_Type)) (b_Type_Base : List Ty_Type) (b_Type_Count : Int) (b_Space_Dims : List Int) (b_Space_Max : List Int) (b_Chunk : List Int) (b_Filters : List (Int × Int × Bool)) (b_Fill : ByteArray) (b_Index : Int) :
    laws_eqDataset a_Type_Kind a_Type_Size a_Type_Signed a_Type_Big a_Type_Names a_Type_Nums a_Type_Members a_Type_Base a_Type_Count a_Space_Dims a_Space_Max a_Chunk a_Filters a_Fill a_Index b_Type_Kind b_Type_Size b_Type_Signed b_Type_Big b_Type_Names b_Type_Nums b_Type_Members b_Type_Base b_Type_Count b_Space_Dims b_Space_Max b_Chunk b_Filters b_Fill b_Index = (
      sbind (laws_eqType a_Type_Kind a_Type_Size a_Type_Signed a_Type_Big a_Type_Names a_Type_Nums a_Type_Members a_Type_Base a_Type_Count b_Type_Kind b_Type_Size b_Type_Signed b_Type_Big b_Type_Names b_Type_Nums b_Type_Members b_Type_Base b_Type_Count) fun r1 =>
      sif (!r1) (some false) <|
      sbind (laws_eqSpace a_Space_Dims a_Space_Max b_Space_Dims b_Space_Max) fun r2 =>
      sif (!r2) (some false) <|
      sbind (laws_eqInt64S a_Chunk b_Chunk) fun r3 =>
      sif (!r3) (some false) <|
      sbind (laws_eqFilterS a_Filters b_Filters) fun r4 =>
      sif (!r4) (some false) <|
      sif (!seq a_Fill b_Fill) (some false) (sif ((a_Index != b_Index)) (some false) (some true))) := sem_eq (f := 50) (m := 0) rfl (by kernel_rfl)
theorem laws_eqType_eq (a_Kind : Int) (a_Size : Int) (a_Signed : Bool) (a_Big : Bool) (a_Names : List ByteArray) (a_Nums : List Int) (a_Members : List (ByteArray × Int × Ty_Type)) (a_Base : List Ty_Type) (a_Count : Int) (b_Kind : Int) (b_Size : Int) (b_Signed : Bool) (b_Big : Bool) (b_Names : List ByteArray) (b_Nums : List Int) (b_Members : List (ByteArray × Int × Ty_Type)) (b_Base : List Ty_Type) (b_Count : Int) :
    laws_eqType a_Kind a_Size a_Signed a_Big a_Names a_Nums a_Members a_Base a_Count b_Kind b_Size b_Signed b_Big b_Names b_Nums b_Members b_Base b_Count = (
      sif ((a_Kind != b_Kind)) (some false) <|
      sif ((a_Size != b_Size)) (some false) <|
      sif (!(a_Signed == b_Signed)) (some false) <|
      sif (!(a_Big == b_Big)) (some false) <|
      sbind (laws_eqStringS a_Names b_Names) fun r1 =>
      sif (!r1) (some false) <|
      sbind (laws_eqInt64S a_Nums b_Nums) fun r2 =>
      sif (!r2) (some false) <|
      sbind (laws_eqMemberS a_Members b_Members) fun r3 =>
      sif (!r3) (some false) <|
      sbind (laws_eqTypeS a_Base b_Base) fun r4 =>
      sif (!r4) (some false) (sif ((a_Count != b_Count)) (some false) (some true))) := sem_eq (f := 76) (m := 0) rfl (by kernel_rfl)
theorem laws_eqStringS_eq (a : List ByteArray) (b : List ByteArray) :
    laws_eqStringS a b = (
      sif (((a.length : Int) != (b.length : Int))) (some false) (laws_eqStringS_l4 a b 0)) := sem_eq (f := 97) (m := 0) rfl (by kernel_rfl)
theorem laws_eqStringS_l4_eq (a : List ByteArray) (b : List ByteArray) (i : Int) :
    laws_eqStringS_l4 a b i = (
      sif (decide (i < (a.length : Int)))
       (sbind (idx a i) fun x1 =>
        sbind (idx b i) fun x2 =>
        sif (!seq x1 x2) (some false) (laws_eqStringS_l4 a b (wi64 (i + 1)))) (some true)) := seml_eq (f := 97) (m := 0) (l := 4) (by kernel_rfl)
theorem laws_eqInt64S_eq (a : List Int) (b : List Int) :
    laws_eqInt64S a b = (
      sif (((a.length : Int) != (b.length : Int))) (some false) (laws_eqInt64S_l4 a b 0)) := sem_eq (f := 78) (m := 0) rfl (by kernel_rfl)
theorem laws_eqInt64S_l4_eq (a : List Int) (b : List Int) (i : Int) :
    laws_eqInt64S_l4 a b i = (
      sif (decide (i < (a.length : Int)))
       (sbind (idx a i) fun x1 =>
        sbind (idx b i) fun x2 =>
        sif ((x1 != x2)) (some false) (laws_eqInt64S_l4 a b (wi64 (i + 1)))) (some true)) := seml_eq (f := 78) (m := 0) (l := 4) (by kernel_rfl)
theorem laws_eqMemberS_eq (a : List (ByteArray × Int × Ty_Type)) (b : List (ByteArray × Int × Ty_Type)) :
    laws_eqMemberS a b = (
      sif (((a.length : Int) != (b.length : Int))) (some false) (laws_eqMemberS_l4 a b 0)) := sem_eq (f := 98) (m := 0) rfl (by kernel_rfl)
theorem laws_eqMemberS_l4_eq (a : List (ByteArray × Int × Ty_Type)) (b : List (ByteArray × Int × Ty_Type)) (i : Int) :
    laws_eqMemberS_l4 a b i = (
      sif (decide (i < (a.length : Int)))
       (sbind (idx a i) fun x1 =>
        sbind (idx b i) fun x2 =>
        sbind (laws_eqMember x1.1 x1.2.1 x1.2.2.f_Kind x1.2.2.f_Size x1.2.2.f_Signed x1.2.2.f_Big x1.2.2.f_Names x1.2.2.f_Nums x1.2.2.f_Members x1.2.2.f_Base x1.2.2.f_Count x2.1 x2.2.1 x2.2.2.f_Kind x2.2.2.f_Size x2.2.2.f_Signed x2.2.2.f_Big x2.2.2.f_Names x2.2.2.f_Nums x2.2.2.f_Members x2.2.2.f_Base x2.2.2.f_Count) fun r3 =>
        sif (!r3) (some false) (laws_eqMemberS_l4 a b (wi64 (i + 1)))) (some true)) := seml_eq (f := 98) (m := 0) (l := 4) (by kernel_rfl)
theorem laws_eqMember_eq (a_Name : ByteArray) (a_Offset : Int) (a_Type_Kind : Int) (a_Type_Size : Int) (a_Type_Signed : Bool) (a_Type_Big : Bool) (a_Type_Names : List ByteArray) (a_Type_Nums : List Int) (a_Type_Members : List (ByteArray × Int × Ty_Type)) (a_Type_Base : List Ty_Type) (a_Type_Count : Int) (b_Name : ByteArray) (b_Offset : Int) (b_Type_Kind : Int) (b_Type_Size : Int) (b_Type_Signed : Bool) (b_Type_Big : Bool) (b_Type_Names : List ByteArray) (b_Type_Nums : List Int) (b_Type_Members : List (ByteArray × Int × Ty_Type)) (b_Type_Base : List Ty_Type) (b_Type_Count : Int) :
    laws_eqMember a_Name a_Offset a_Type_Kind a_Type_Size a_Type_Signed a_Type_Big a_Type_Names a_Type_Nums a_Type_Members a_Type_Base a_Type_Count b_Name b_Offset b_Type_Kind b_Type_Size b_Type_Signed b_Type_Big b_Type_Names b_Type_Nums b_Type_Members b_Type_Base b_Type_Count = (
      sif (!seq a_Name b_Name) (some false) <|
      sif ((a_Offset != b_Offset)) (some false) <|
      sbind (laws_eqType a_Type_Kind a_Type_Size a_Type_Signed a_Type_Big a_Type_Names a_Type_Nums a_Type_Members a_Type_Base a_Type_Count b_Type_Kind b_Type_Size b_Type_Signed b_Type_Big b_Type_Names b_Type_Nums b_Type_Members b_Type_Base b_Type_Count) fun r1 =>
      sif (!r1) (some false) (some true)) := sem_eq (f := 107) (m := 0) rfl (by kernel_rfl)
theorem laws_eqTypeS_eq (a : List Ty_Type) (b : List Ty_Type) :
    laws_eqTypeS a b = (
      sif (((a.length : Int) != (b.length : Int))) (some false) (laws_eqTypeS_l4 a b 0)) := sem_eq (f := 99) (m := 0) rfl (by kernel_rfl)
theorem laws_eqTypeS_l4_eq (a : List Ty_Type) (b : List Ty_Type) (i : Int) :
    laws_eqTypeS_l4 a b i = (
      sif (decide (i < (a.length : Int)))
       (sbind (idx a i) fun x1 =>
        sbind (idx b i) fun x2 =>
        sbind (laws_eqType x1.f_Kind x1.f_Size x1.f_Signed x1.f_Big x1.f_Names x1.f_Nums x1.f_Members x1.f_Base x1.f_Count x2.f_Kind x2.f_Size x2.f_Signed x2.f_Big x2.f_Names x2.f_Nums x2.f_Members x2.f_Base x2.f_Count) fun r3 =>
        sif (!r3) (some false) (laws_eqTypeS_l4 a b (wi64 (i + 1)))) (some true)) := seml_eq (f := 99) (m := 0) (l := 4) (by kernel_rfl)
theorem laws_eqSpace_eq (a_Dims : List Int) (a_Max : List Int) (b_Dims : List Int) (b_Max : List Int) :
    laws_eqSpace a_Dims a_Max b_Dims b_Max = (
      sbind (laws_eqInt64S a_Dims b_Dims) fun r1 =>
      sif (!r1) (some false) <|
      sbind (laws_eqInt64S a_Max b_Max) fun r2 =>
      sif (!r2) (some false) (some true)) := sem_eq (f := 77) (m := 0) rfl (by kernel_rfl)
theorem laws_eqFilterS_eq (a : List (Int × Int × Bool)) (b : List (Int × Int × Bool)) :
    laws_eqFilterS a b = (
      sif (((a.length : Int) != (b.length : Int))) (some false) (laws_eqFilterS_l4 a b 0)) := sem_eq (f := 79) (m := 0) rfl (by kernel_rfl)
theorem laws_eqFilterS_l4_eq (a : List (Int × Int × Bool)) (b : List (Int × Int × Bool)) (i : Int) :
    laws_eqFilterS_l4 a b i = (
      sif (decide (i < (a.length : Int)))
       (sbind (idx a i) fun x1 =>
        sbind (idx b i) fun x2 =>
        sbind (laws_eqFilter x1.1 x1.2.1 x1.2.2 x2.1 x2.2.1 x2.2.2) fun r3 =>
        sif (!r3) (some false) (laws_eqFilterS_l4 a b (wi64 (i + 1)))) (some true)) := seml_eq (f := 79) (m := 0) (l := 4) (by kernel_rfl)
theorem laws_eqFilter_eq (a_Kind : Int) (a_Param : Int) (a_Optional : Bool) (b_Kind : Int) (b_Param : Int) (b_Optional : Bool) :
    laws_eqFilter a_Kind a_Param a_Optional b_Kind b_Param b_Optional = (
      sif ((a_Kind != b_Kind)) (some false) <|
      sif ((a_Param != b_Param)) (some false) <|
      sif (!(a_Optional == b_Optional)) (some false) (some true)) := sem_eq (f := 100) (m := 0) rfl (by kernel_rfl)
theorem laws_eqAttributeS_eq (a : List (ByteArray × Ty_Type × List Int × ByteArray)) (b : List (ByteArray × Ty_Type × List Int × ByteArray)) :
    laws_eqAttributeS a b = (
      sif (((a.length : Int) != (b.length : Int))) (some false) (laws_eqAttributeS_l4 a b 0)) := sem_eq (f := 51) (m := 0) rfl (by kernel_rfl)
theorem laws_eqAttributeS_l4_eq (a : List (ByteArray × Ty_Type × List Int × ByteArray)) (b : List (ByteArray × Ty_Type × List Int × ByteArray)) (i : Int) :
    laws_eqAttributeS_l4 a b i = (
      sif (decide (i < (a.length : Int)))
       (sbind (idx a i) fun x1 =>
        sbind (idx b i) fun x2 =>
        sbind (laws_eqAttribute x1.1 x1.2.1.f_Kind x1.2.1.f_Size x1.2.1.f_Signed x1.2.1.f_Big x1.2.1.f_Names x1.2.1.f_Nums x1.2.1.f_Members x1.2.1.f_Base x1.2.1.f_Count x1.2.2.1 x1.2.2.2 x2.1 x2.2.1.f_Kind x2.2.1.f_Size x2.2.1.f_Signed x2.2.1.f_Big x2.2.1.f_Names x2.2.1.f_Nums x2.2.1.f_Members x2.2.1.f_Base x2.2.1.f_Count x2.2.2.1 x2.2.2.2) fun r3 =>
        sif (!r3) (some false) (laws_eqAttributeS_l4 a b (wi64 (i + 1)))) (some true)) := seml_eq (f := 51) (m := 0) (l := 4) (by kernel_rfl)
theorem laws_eqAttribute_eq (a_Name : ByteArray) (a_Value_Type_Kind : Int) (a_Value_Type_Size : Int) (a_Value_Type_Signed : Bool) (a_Value_Type_Big : Bool) (a_Value_Type_Names : List ByteArray) (a_Value_Type_Nums : List Int) (a_Value_Type_Members : List (ByteArray × Int × Ty_Type)) (a_Value_Type_Base : List Ty_Type) (a_Value_Type_Count : Int) (a_Value_Dims : List Int) (a_Value_Data : ByteArray) (b_Name : ByteArray) (b_Value_Type_Kind : Int) (b_Value_Type_Size : Int) (b_Value_Type_Signed : Bool) (b_Value_Type_Big : Bool) (b_Value_Type_Names : List ByteArray) (b_Value_Type_Nums : List Int) (b_Value_Type_Members : List (ByteArray × Int × Ty_Type)) (b_Value_Type_Base : List Ty_Type) (b_Value_Type_Count : Int) (b_Value_Dims : List Int) (b_Value_Data : ByteArray) :
    laws_eqAttribute a_Name a_Value_Type_Kind a_Value_Type_Size a_Value_Type_Signed a_Value_Type_Big a_Value_Type_Names a_Value_Type_Nums a_Value_Type_Members a_Value_Type_Base a_Value_Type_Count a_Value_Dims a_Value_Data b_Name b_Value_Type_Kind b_Value_Type_Size b_Value_Type_Signed b_Value_Type_Big b_Value_Type_Names b_Value_Type_Nums b_Value_Type_Members b_Value_Type_Base b_Value_Type_Count b_Value_Dims b_Value_Data = (
      sif (!seq a_Name b_Name) (some false) <|
      sbind (laws_eqArray a_Value_Type_Kind a_Value_Type_Size a_Value_Type_Signed a_Value_Type_Big a_Value_Type_Names a_Value_Type_Nums a_Value_Type_Members a_Value_Type_Base a_Value_Type_Count a_Value_Dims a_Value_Data b_Value_Type_Kind b_Value_Type_Size b_Value_Type_Signed b_Value_Type_Big b_Value_Type_Names b_Value_Type_Nums b_Value_Type_Members b_Value_Type_Base b_Value_Type_Count b_Value_Dims b_Value_Data) fun r1 =>
      sif (!r1) (some false) (some true)) := sem_eq (f := 80) (m := 0) rfl (by kernel_rfl)
theorem laws_eqArray_eq (a_Type_Kind : Int) (a_Type_Size : Int) (a_Type_Signed : Bool) (a_Type_Big : Bool) (a_Type_Names : List ByteArray) (a_Type_Nums : List Int) (a_Type_Members : List (ByteArray × Int × Ty_Type)) (a_Type_Base : List Ty_Type) (a_Type_Count : Int) (a_Dims : List Int) (a_Data : ByteArray) (b_Type_Kind : Int) (b_Type_Size : Int) (b_Type_Signed : Bool) (b_Type_Big : Bool) (b_Type_Names : List ByteArray) (b_Type_Nums : List Int) (b_Type_Members : List (ByteArray × Int × Ty_Type)) (b_Type_Base : List Ty_Type) (b_Type_Count : Int) (b_Dims : List Int) (b_Data : ByteArray) :
    laws_eqArray a_Type_Kind a_Type_Size a_Type_Signed a_Type_Big a_Type_Names a_Type_Nums a_Type_Members a_Type_Base a_Type_Count a_Dims a_Data b_Type_Kind b_Type_Size b_Type_Signed b_Type_Big b_Type_Names b_Type_Nums b_Type_Members b_Type_Base b_Type_Count b_Dims b_Data = (
      sbind (laws_eqType a_Type_Kind a_Type_Size a_Type_Signed a_Type_Big a_Type_Names a_Type_Nums a_Type_Members a_Type_Base a_Type_Count b_Type_Kind b_Type_Size b_Type_Signed b_Type_Big b_Type_Names b_Type_Nums b_Type_Members b_Type_Base b_Type_Count) fun r1 =>
      sif (!r1) (some false) <|
      sbind (laws_eqInt64S a_Dims b_Dims) fun r2 =>
      sif (!r2) (some false) (sif (!seq a_Data b_Data) (some false) (some true))) := sem_eq (f := 101) (m := 0) rfl (by kernel_rfl)
theorem laws_eqVirtual_eq (a_Type_Kind : Int) (a_Type_Size : Int) (a_Type_Signed : Bool) (a_Type_Big : Bool) (a_Type_Names : List ByteArray) (a_Type_Nums : List Int) (a_Type_Members : List (ByteArray × Int × Ty_Type)) (a_Type_Base : List Ty_Type) (a_Type_Count : Int) (a_Dims : List Int) (a_Fill : ByteArray) (a_Maps : List (ByteArray × Int × List Int × List Int × List Int × List Int × List (List Int) × Int × List Int × List Int × List Int × List Int × List (List Int))) (b_Type_Kind : Int) (b_Type_Size : Int) (b_Type_Signed : Bool) (b_Type_Big : Bool) (b_Type_Names : List ByteArray) (b_Type_Nums : List Int) (b_Type_Members : List (ByteArray × Int × Ty_Type)) (b_Type_Base : List Ty_Type) (b_Type_Count : Int) (b_Dims : List Int) (b_Fill : ByteArray) (b_Maps : List (ByteArray × Int × List Int × List Int × List Int × List Int × List (List Int) × Int × List Int × List Int × List Int × List Int × List (List Int))) :
    laws_eqVirtual a_Type_Kind a_Type_Size a_Type_Signed a_Type_Big a_Type_Names a_Type_Nums a_Type_Members a_Type_Base a_Type_Count a_Dims a_Fill a_Maps b_Type_Kind b_Type_Size b_Type_Signed b_Type_Big b_Type_Names b_Type_Nums b_Type_Members b_Type_Base b_Type_Count b_Dims b_Fill b_Maps = (
      sbind (laws_eqType a_Type_Kind a_Type_Size a_Type_Signed a_Type_Big a_Type_Names a_Type_Nums a_Type_Members a_Type_Base a_Type_Count b_Type_Kind b_Type_Size b_Type_Signed b_Type_Big b_Type_Names b_Type_Nums b_Type_Members b_Type_Base b_Type_Count) fun r1 =>
      sif (!r1) (some false) <|
      sbind (laws_eqInt64S a_Dims b_Dims) fun r2 =>
      sif (!r2) (some false) <|
      sif (!seq a_Fill b_Fill) (some false) <|
      sbind (laws_eqMappingS a_Maps b_Maps) fun r3 =>
      sif (!r3) (some false) (some true)) := sem_eq (f := 52) (m := 0) rfl (by kernel_rfl)
theorem laws_eqMappingS_eq (a : List (ByteArray × Int × List Int × List Int × List Int × List Int × List (List Int) × Int × List Int × List Int × List Int × List Int × List (List Int))) (b : List (ByteArray × Int × List Int × List Int × List Int × List Int × List (List Int) × Int × List Int × List Int × List Int × List Int × List (List Int))) :
    laws_eqMappingS a b = (
      sif (((a.length : Int) != (b.length : Int))) (some false) (laws_eqMappingS_l4 a b 0)) := sem_eq (f := 81) (m := 0) rfl (by kernel_rfl)
theorem laws_eqMappingS_l4_eq (a : List (ByteArray × Int × List Int × List Int × List Int × List Int × List (List Int) × Int × List Int × List Int × List Int × List Int × List (List Int))) (b : List (ByteArray × Int × List Int × List Int × List Int × List Int × List (List Int) × Int × List Int × List Int × List Int × List Int × List (List Int))) (i : Int) :
    laws_eqMappingS_l4 a b i = (
      sif (decide (i < (a.length : Int)))
       (sbind (idx a i) fun x1 =>
        sbind (idx b i) fun x2 =>
        sbind (laws_eqMapping x1.1 x1.2.1 x1.2.2.1 x1.2.2.2.1 x1.2.2.2.2.1 x1.2.2.2.2.2.1 x1.2.2.2.2.2.2.1 x1.2.2.2.2.2.2.2.1 x1.2.2.2.2.2.2.2.2.1 x1.2.2.2.2.2.2.2.2.2.1 x1.2.2.2.2.2.2.2.2.2.2.1 x1.2.2.2.2.2.2.2.2.2.2.2.1 x1.2.2.2.2.2.2.2.2.2.2.2.2 x2.1 x2.2.1 x2.2.2.1 x2.2.2.2.1 x2.2.2.2.2.1 x2.2.2.2.2.2.1 x2.2.2.2.2.2.2.1 x2.2.2.2.2.2.2.2.1 x2.2.2.2.2.2.2.2.2.1 x2.2.2.2.2.2.2.2.2.2.1 x2.2.2.2.2.2.2.2.2.2.2.1 x2.2.2.2.2.2.2.2.2.2.2.2.1 x2.2.2.2.2.2.2.2.2.2.2.2.2) fun r3 =>
        sif (!r3) (some false) (laws_eqMappingS_l4 a b (wi64 (i + 1)))) (some true)) := seml_eq (f := 81) (m := 0) (l := 4) (by kernel_rfl)
theorem laws_eqMapping_eq (a_Path : ByteArray) (a_Source_Kind : Int) (a_Source_Start : List Int) (a_Source_Stride : List Int) (a_Source_Count : List Int) (a_Source_Block : List Int) (a_Source_Points : List (List Int)) (a_Target_Kind : Int) (a_Target_Start : List Int) (a_Target_Stride : List Int) (a_Target_Count : List Int) (a_Target_Block : List Int) (a_Target_Points : List (List Int)) (b_Path : ByteArray) (b_Source_Kind : Int) (b_Source_Start : List Int) (b_Source_Stride : List Int) (b_Source_Count : List Int) (b_Source_Block : List Int) (b_Source_Points : List (List Int)) (b_Target_Kind : Int) (b_Target_Start : List Int) (b_Target_Stride : List Int) (b_Target_Count : List Int) (b_Target_Block : List Int) (b_Target_Points : List (List Int)) :
    laws_eqMapping a_Path a_Source_Kind a_Source_Start a_Source_Stride a_Source_Count a_Source_Block a_Source_Points a_Target_Kind a_Target_Start a_Target_Stride a_Target_Count a_Target_Block a_Target_Points b_Path b_Source_Kind b_Source_Start b_Source_Stride b_Source_Count b_Source_Block b_Source_Points b_Target_Kind b_Target_Start b_Target_Stride b_Target_Count b_Target_Block b_Target_Points = (
      sif (!seq a_Path b_Path) (some false) <|
      sbind (laws_eqSelection a_Source_Kind a_Source_Start a_Source_Stride a_Source_Count a_Source_Block a_Source_Points b_Source_Kind b_Source_Start b_Source_Stride b_Source_Count b_Source_Block b_Source_Points) fun r1 =>
      sif (!r1) (some false) <|
      sbind (laws_eqSelection a_Target_Kind a_Target_Start a_Target_Stride a_Target_Count a_Target_Block a_Target_Points b_Target_Kind b_Target_Start b_Target_Stride b_Target_Count b_Target_Block b_Target_Points) fun r2 =>
      sif (!r2) (some false) (some true)) := sem_eq (f := 102) (m := 0) rfl (by kernel_rfl)
theorem laws_eqSelection_eq (a_Kind : Int) (a_Start : List Int) (a_Stride : List Int) (a_Count : List Int) (a_Block : List Int) (a_Points : List (List Int)) (b_Kind : Int) (b_Start : List Int) (b_Stride : List Int) (b_Count : List Int) (b_Block : List Int) (b_Points : List (List Int)) :
    laws_eqSelection a_Kind a_Start a_Stride a_Count a_Block a_Points b_Kind b_Start b_Stride b_Count b_Block b_Points = (
      sif ((a_Kind != b_Kind)) (some false) <|
      sbind (laws_eqInt64S a_Start b_Start) fun r1 =>
      sif (!r1) (some false) <|
      sbind (laws_eqInt64S a_Stride b_Stride) fun r2 =>
      sif (!r2) (some false) <|
      sbind (laws_eqInt64S a_Count b_Count) fun r3 =>
      sif (!r3) (some false) <|
      sbind (laws_eqInt64S a_Block b_Block) fun r4 =>
      sif (!r4) (some false) <|
      sbind (laws_eqPointS a_Points b_Points) fun r5 =>
      sif (!r5) (some false) (some true)) := sem_eq (f := 108) (m := 0) rfl (by kernel_rfl)
theorem laws_eqPointS_eq (a : List (List Int)) (b : List (List Int)) :
    laws_eqPointS a b = (
      sif (((a.length : Int) != (b.length : Int))) (some false) (laws_eqPointS_l4 a b 0)) := sem_eq (f := 111) (m := 0) rfl (by kernel_rfl)
theorem laws_eqPointS_l4_eq (a : List (List Int)) (b : List (List Int)) (i : Int) :
    laws_eqPointS_l4 a b i = (
      sif (decide (i < (a.length : Int)))
       (sbind (idx a i) fun x1 =>
        sbind (idx b i) fun x2 =>
        sbind (laws_eqPoint x1 x2) fun r3 =>
        sif (!r3) (some false) (laws_eqPointS_l4 a b (wi64 (i + 1)))) (some true)) := seml_eq (f := 111) (m := 0) (l := 4) (by kernel_rfl)
theorem laws_eqPoint_eq (a_At : List Int) (b_At : List Int) :
    laws_eqPoint a_At b_At = (
      sbind (laws_eqInt64S a_At b_At) fun r1 =>
      sif (!r1) (some false) (some true)) := sem_eq (f := 114) (m := 0) rfl (by kernel_rfl)
def Ok_Ty_Type (x : Ty_Type) : Prop := ((Lit.int .i64 x.f_Kind).wf = true) ∧ ((Lit.int .i64 x.f_Size).wf = true) ∧ (True) ∧ (True) ∧ (x.f_Names.length ≤ maxLen ∧ x.f_Names.length * 16 ≤ 140737488351232 ∧ ∀ e_ ∈ x.f_Names, e_.size ≤ 140737488351232) ∧ (x.f_Nums.length ≤ maxLen ∧ x.f_Nums.length * 8 ≤ 140737488351232 ∧ ∀ e_ ∈ x.f_Nums, (Lit.int .i64 e_).wf = true) ∧ (x.f_Members.length ≤ maxLen ∧ x.f_Members.length * 152 ≤ 140737488351232 ∧ ∀ e_ ∈ x.f_Members, (e_.1.size ≤ 140737488351232) ∧ ((Lit.int .i64 e_.2.1).wf = true) ∧ (Ok_Ty_Type e_.2.2)) ∧ (x.f_Base.length ≤ maxLen ∧ x.f_Base.length * 128 ≤ 140737488351232 ∧ ∀ e_ ∈ x.f_Base, Ok_Ty_Type e_) ∧ ((Lit.int .i64 x.f_Count).wf = true)
termination_by SizeOf.sizeOf x
decreasing_by
  · obtain ⟨⟩ := x
    have h1 := List.sizeOf_lt_of_mem ‹_ ∈ _›
    obtain ⟨a0, a1, a2⟩ := e_
    simp [Ty_Type.f_Members] at h1 ⊢
    omega
  · obtain ⟨⟩ := x
    have h1 := List.sizeOf_lt_of_mem ‹_ ∈ _›
    simp [Ty_Type.f_Base] at h1 ⊢
    omega
theorem Ok_Ty_Type.mk (x : Ty_Type) (h : ((Lit.int .i64 x.f_Kind).wf = true) ∧ ((Lit.int .i64 x.f_Size).wf = true) ∧ (True) ∧ (True) ∧ (x.f_Names.length ≤ maxLen ∧ x.f_Names.length * 16 ≤ 140737488351232 ∧ ∀ e_ ∈ x.f_Names, e_.size ≤ 140737488351232) ∧ (x.f_Nums.length ≤ maxLen ∧ x.f_Nums.length * 8 ≤ 140737488351232 ∧ ∀ e_ ∈ x.f_Nums, (Lit.int .i64 e_).wf = true) ∧ (x.f_Members.length ≤ maxLen ∧ x.f_Members.length * 152 ≤ 140737488351232 ∧ ∀ e_ ∈ x.f_Members, (e_.1.size ≤ 140737488351232) ∧ ((Lit.int .i64 e_.2.1).wf = true) ∧ (Ok_Ty_Type e_.2.2)) ∧ (x.f_Base.length ≤ maxLen ∧ x.f_Base.length * 128 ≤ 140737488351232 ∧ ∀ e_ ∈ x.f_Base, Ok_Ty_Type e_) ∧ ((Lit.int .i64 x.f_Count).wf = true)) : Ok_Ty_Type x := by rw [Ok_Ty_Type]; exact h
theorem Ok_Ty_Type.out {x : Ty_Type} (h : Ok_Ty_Type x) : ((Lit.int .i64 x.f_Kind).wf = true) ∧ ((Lit.int .i64 x.f_Size).wf = true) ∧ (True) ∧ (True) ∧ (x.f_Names.length ≤ maxLen ∧ x.f_Names.length * 16 ≤ 140737488351232 ∧ ∀ e_ ∈ x.f_Names, e_.size ≤ 140737488351232) ∧ (x.f_Nums.length ≤ maxLen ∧ x.f_Nums.length * 8 ≤ 140737488351232 ∧ ∀ e_ ∈ x.f_Nums, (Lit.int .i64 e_).wf = true) ∧ (x.f_Members.length ≤ maxLen ∧ x.f_Members.length * 152 ≤ 140737488351232 ∧ ∀ e_ ∈ x.f_Members, (e_.1.size ≤ 140737488351232) ∧ ((Lit.int .i64 e_.2.1).wf = true) ∧ (Ok_Ty_Type e_.2.2)) ∧ (x.f_Base.length ≤ maxLen ∧ x.f_Base.length * 128 ≤ 140737488351232 ∧ ∀ e_ ∈ x.f_Base, Ok_Ty_Type e_) ∧ ((Lit.int .i64 x.f_Count).wf = true) := by rw [Ok_Ty_Type] at h; exact h
end Go.Ve.X
