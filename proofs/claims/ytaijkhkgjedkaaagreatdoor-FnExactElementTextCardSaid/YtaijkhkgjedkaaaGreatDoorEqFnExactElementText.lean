/- The equations of the functions that 'FnExactElementText' reaches (printed by plan.py): what each answers. No condition. -/
import Derived.Test.YtaijkhkgjedkaaaGreatDoorEnvFnExactElementText
namespace Go.Ve.X
open Go.Proofs Go.Ve Go.RowKit
set_option linter.unusedVariables false
set_option maxRecDepth 100000
theorem laws_FnExactElementText_eq (aT_Kind : Int) (aT_Size : Int) (aT_Signed : Bool) (aT_Big : Bool) (aT_Names : List ByteArray) (aT_Nums : List Int) (aT_Members : List (ByteArray × Int × Ty_Type)) (aT_Base : List Ty_Type) (aT_Count : Int) (aB : ByteArray) :
    laws_FnExactElementText aT_Kind aT_Size aT_Signed aT_Big aT_Names aT_Nums aT_Members aT_Base aT_Count aB = (
      sif (decide ((aB.size : Int) > 1048576)) (some true) <|
      sbind (laws_szType aT_Kind aT_Size aT_Signed aT_Big aT_Names aT_Nums aT_Members aT_Base aT_Count 1048576) fun r1 =>
      sif (decide (r1 < 0)) (some true) <|
      sbind (laws_toType aT_Kind aT_Size aT_Signed aT_Big aT_Names aT_Nums aT_Members aT_Base aT_Count) fun r2 =>
      sbind (spec_ElementText r2.1 r2.2.1 r2.2.2.1 r2.2.2.2.1 r2.2.2.2.2.2.1 r2.2.2.2.2.2.2.1 r2.2.2.2.2.2.2.2.1 r2.2.2.2.2.2.2.2.2 r2.2.2.2.2.1 aB) fun r3 =>
      sbind (laws_toType aT_Kind aT_Size aT_Signed aT_Big aT_Names aT_Nums aT_Members aT_Base aT_Count) fun r4 =>
      sbind (impl_ElementText r4.1 r4.2.1 r4.2.2.1 r4.2.2.2.1 r4.2.2.2.2.2.1 r4.2.2.2.2.2.2.1 r4.2.2.2.2.2.2.2.1 r4.2.2.2.2.2.2.2.2 r4.2.2.2.2.1 aB) fun r5 =>
      sif (!seq r5 r3) (some false) <|
      sbind (laws_toType aT_Kind aT_Size aT_Signed aT_Big aT_Names aT_Nums aT_Members aT_Base aT_Count) fun r6 =>
      sbind (laws_eqType r4.1 r4.2.1 r4.2.2.1 r4.2.2.2.1 r4.2.2.2.2.2.1 r4.2.2.2.2.2.2.1 r4.2.2.2.2.2.2.2.1 r4.2.2.2.2.2.2.2.2 r4.2.2.2.2.1 r6.1 r6.2.1 r6.2.2.1 r6.2.2.2.1 r6.2.2.2.2.2.1 r6.2.2.2.2.2.2.1 r6.2.2.2.2.2.2.2.1 r6.2.2.2.2.2.2.2.2 r6.2.2.2.2.1) fun r7 =>
      sif (!r7) (some false) (some true)) := sem_eq (f := 6) (m := 0) rfl (by kernel_rfl)
theorem laws_szType_eq (a_Kind : Int) (a_Size : Int) (a_Signed : Bool) (a_Big : Bool) (a_Names : List ByteArray) (a_Nums : List Int) (a_Members : List (ByteArray × Int × Ty_Type)) (a_Base : List Ty_Type) (a_Count : Int) (left : Int) :
    laws_szType a_Kind a_Size a_Signed a_Big a_Names a_Nums a_Members a_Base a_Count left = (
      sbind (laws_szStringS a_Names left) fun r1 =>
      sif (decide (r1 < 0)) (some (-1)) <|
      sbind (laws_szInt64S a_Nums r1) fun r2 =>
      sif (decide (r2 < 0)) (some (-1)) <|
      sbind (laws_szMemberS a_Members r2) fun r3 =>
      sif (decide (r3 < 0)) (some (-1)) <|
      sbind (laws_szTypeS a_Base r3) fun r4 =>
      sif (decide (r4 < 0)) (some (-1)) (some r4)) := sem_eq (f := 27) (m := 0) rfl (by kernel_rfl)
theorem laws_szStringS_eq (a : List ByteArray) (left : Int) :
    laws_szStringS a left = (
      sif (decide (wi64 (left - (a.length : Int)) < 0)) (some (-1)) <|
      laws_szStringS_l5 a (wi64 (left - (a.length : Int))) 0) := sem_eq (f := 68) (m := 0) rfl (by kernel_rfl)
theorem laws_szStringS_l5_eq (a : List ByteArray) (left : Int) (i : Int) :
    laws_szStringS_l5 a left i = (
      sif (decide (i < (a.length : Int)))
       (sbind (idx a i) fun x1 =>
        sif (decide (wi64 (left - (x1.size : Int)) < 0)) (some (-1)) <|
        laws_szStringS_l5 a (wi64 (left - (x1.size : Int))) (wi64 (i + 1))) (some left)) := seml_eq (f := 68) (m := 0) (l := 5) (by kernel_rfl)
theorem laws_szInt64S_eq (a : List Int) (left : Int) :
    laws_szInt64S a left = (
      sif (decide (wi64 (left - (a.length : Int)) < 0)) (some (-1)) (some (wi64 (left - (a.length : Int))))) := sem_eq (f := 42) (m := 0) rfl (by kernel_rfl)
theorem laws_szMemberS_eq (a : List (ByteArray × Int × Ty_Type)) (left : Int) :
    laws_szMemberS a left = (
      sif (decide (wi64 (left - (a.length : Int)) < 0)) (some (-1)) <|
      laws_szMemberS_l5 a (wi64 (left - (a.length : Int))) 0) := sem_eq (f := 69) (m := 0) rfl (by kernel_rfl)
theorem laws_szMemberS_l5_eq (a : List (ByteArray × Int × Ty_Type)) (left : Int) (i : Int) :
    laws_szMemberS_l5 a left i = (
      sif (decide (i < (a.length : Int)))
       (sbind (idx a i) fun x1 =>
        sbind (laws_szMember x1.1 x1.2.1 x1.2.2.f_Kind x1.2.2.f_Size x1.2.2.f_Signed x1.2.2.f_Big x1.2.2.f_Names x1.2.2.f_Nums x1.2.2.f_Members x1.2.2.f_Base x1.2.2.f_Count left) fun r2 =>
        sif (decide (r2 < 0)) (some (-1)) (laws_szMemberS_l5 a r2 (wi64 (i + 1)))) (some left)) := seml_eq (f := 69) (m := 0) (l := 5) (by kernel_rfl)
theorem laws_szMember_eq (a_Name : ByteArray) (a_Offset : Int) (a_Type_Kind : Int) (a_Type_Size : Int) (a_Type_Signed : Bool) (a_Type_Big : Bool) (a_Type_Names : List ByteArray) (a_Type_Nums : List Int) (a_Type_Members : List (ByteArray × Int × Ty_Type)) (a_Type_Base : List Ty_Type) (a_Type_Count : Int) (left : Int) :
    laws_szMember a_Name a_Offset a_Type_Kind a_Type_Size a_Type_Signed a_Type_Big a_Type_Names a_Type_Nums a_Type_Members a_Type_Base a_Type_Count left = (
      sif (decide (wi64 (left - (a_Name.size : Int)) < 0)) (some (-1)) <|
      sbind (laws_szType a_Type_Kind a_Type_Size a_Type_Signed a_Type_Big a_Type_Names a_Type_Nums a_Type_Members a_Type_Base a_Type_Count (wi64 (left - (a_Name.size : Int)))) fun r1 =>
      sif (decide (r1 < 0)) (some (-1)) (some r1)) := sem_eq (f := 141) (m := 0) rfl (by kernel_rfl)
theorem laws_szTypeS_eq (a : List Ty_Type) (left : Int) :
    laws_szTypeS a left = (
      sif (decide (wi64 (left - (a.length : Int)) < 0)) (some (-1)) <|
      laws_szTypeS_l5 a (wi64 (left - (a.length : Int))) 0) := sem_eq (f := 70) (m := 0) rfl (by kernel_rfl)
theorem laws_szTypeS_l5_eq (a : List Ty_Type) (left : Int) (i : Int) :
    laws_szTypeS_l5 a left i = (
      sif (decide (i < (a.length : Int)))
       (sbind (idx a i) fun x1 =>
        sbind (laws_szType x1.f_Kind x1.f_Size x1.f_Signed x1.f_Big x1.f_Names x1.f_Nums x1.f_Members x1.f_Base x1.f_Count left) fun r2 =>
        sif (decide (r2 < 0)) (some (-1)) (laws_szTypeS_l5 a r2 (wi64 (i + 1)))) (some left)) := seml_eq (f := 70) (m := 0) (l := 5) (by kernel_rfl)
theorem laws_toType_eq (a_Kind : Int) (a_Size : Int) (a_Signed : Bool) (a_Big : Bool) (a_Names : List ByteArray) (a_Nums : List Int) (a_Members : List (ByteArray × Int × Ty_Type)) (a_Base : List Ty_Type) (a_Count : Int) :
    laws_toType a_Kind a_Size a_Signed a_Big a_Names a_Nums a_Members a_Base a_Count = (
      sbind (laws_toStringS a_Names) fun r1 =>
      sbind (laws_toInt64S a_Nums) fun r2 =>
      sbind (laws_toMemberS a_Members) fun r3 =>
      sbind (laws_toTypeS a_Base) fun r4 =>
      some (a_Kind, a_Size, a_Signed, a_Big, a_Count, r1, r2, r3, r4)) := sem_eq (f := 29) (m := 0) rfl (by kernel_rfl)
theorem laws_toStringS_eq (a : List ByteArray) :
    laws_toStringS a = (
      sif (le3 0 (a.length : Int) (a.length : Int) && room a.length 16) (laws_toStringS_l3 a 0 (List.replicate a.length (bs [] : ByteArray))) (none)) := sem_eq (f := 73) (m := 0) rfl (by kernel_rfl)
theorem laws_toStringS_l3_eq (a : List ByteArray) (i : Int) (out : List ByteArray) :
    laws_toStringS_l3 a i out = (
      sif (decide (i < (a.length : Int)))
       (sbind (idx a i) fun x1 =>
        sif (lt3 0 i (out.length : Int)) (laws_toStringS_l3 a (wi64 (i + 1)) (out.set i.toNat x1)) (none)) (some out)) := seml_eq (f := 73) (m := 0) (l := 3) (by kernel_rfl)
theorem laws_toInt64S_eq (a : List Int) :
    laws_toInt64S a = (
      sif (le3 0 (a.length : Int) (a.length : Int) && room a.length 8) (laws_toInt64S_l3 a 0 (List.replicate a.length (0 : Int))) (none)) := sem_eq (f := 12) (m := 0) rfl (by kernel_rfl)
theorem laws_toInt64S_l3_eq (a : List Int) (i : Int) (out : List Int) :
    laws_toInt64S_l3 a i out = (
      sif (decide (i < (a.length : Int)))
       (sbind (idx a i) fun x1 =>
        sif (lt3 0 i (out.length : Int)) (laws_toInt64S_l3 a (wi64 (i + 1)) (out.set i.toNat x1)) (none)) (some out)) := seml_eq (f := 12) (m := 0) (l := 3) (by kernel_rfl)
theorem laws_toMemberS_eq (a : List (ByteArray × Int × Ty_Type)) :
    laws_toMemberS a = (
      sif (le3 0 (a.length : Int) (a.length : Int) && room a.length 152)
       (laws_toMemberS_l3 a 0 (List.replicate a.length ((bs [], 0, (Ty_Type.mk 0 0 false false ([] : List ByteArray) ([] : List Int) ([] : List (ByteArray × Int × Ty_Type)) ([] : List Ty_Type) 0)) : ByteArray × Int × Ty_Type))) (none)) := sem_eq (f := 74) (m := 0) rfl (by kernel_rfl)
theorem laws_toMemberS_l3_eq (a : List (ByteArray × Int × Ty_Type)) (i : Int) (out : List (ByteArray × Int × Ty_Type)) :
    laws_toMemberS_l3 a i out = (
      sif (decide (i < (a.length : Int)))
       (sbind (idx a i) fun x1 =>
        sbind (laws_toMember x1.1 x1.2.1 x1.2.2.f_Kind x1.2.2.f_Size x1.2.2.f_Signed x1.2.2.f_Big x1.2.2.f_Names x1.2.2.f_Nums x1.2.2.f_Members x1.2.2.f_Base x1.2.2.f_Count) fun r2 =>
        sif (lt3 0 i (out.length : Int))
         (laws_toMemberS_l3 a (wi64 (i + 1)) (out.set i.toNat (r2.1, r2.2.1, (Ty_Type.mk r2.2.2.1 r2.2.2.2.1 r2.2.2.2.2.1 r2.2.2.2.2.2.1 r2.2.2.2.2.2.2.2.1 r2.2.2.2.2.2.2.2.2.1 r2.2.2.2.2.2.2.2.2.2.1 r2.2.2.2.2.2.2.2.2.2.2 r2.2.2.2.2.2.2.1)))) (none)) (some out)) := seml_eq (f := 74) (m := 0) (l := 3) (by kernel_rfl)
theorem laws_toMember_eq (a_Name : ByteArray) (a_Offset : Int) (a_Type_Kind : Int) (a_Type_Size : Int) (a_Type_Signed : Bool) (a_Type_Big : Bool) (a_Type_Names : List ByteArray) (a_Type_Nums : List Int) (a_Type_Members : List (ByteArray × Int × Ty_Type)) (a_Type_Base : List Ty_Type) (a_Type_Count : Int) :
    laws_toMember a_Name a_Offset a_Type_Kind a_Type_Size a_Type_Signed a_Type_Big a_Type_Names a_Type_Nums a_Type_Members a_Type_Base a_Type_Count = (
      sbind (laws_toType a_Type_Kind a_Type_Size a_Type_Signed a_Type_Big a_Type_Names a_Type_Nums a_Type_Members a_Type_Base a_Type_Count) fun r1 =>
      some (a_Name, a_Offset, r1.1, r1.2.1, r1.2.2.1, r1.2.2.2.1, r1.2.2.2.2.1, r1.2.2.2.2.2.1, r1.2.2.2.2.2.2.1, r1.2.2.2.2.2.2.2.1, r1.2.2.2.2.2.2.2.2)) := sem_eq (f := 146) (m := 0) rfl (by kernel_rfl)
theorem laws_toTypeS_eq (a : List Ty_Type) :
    laws_toTypeS a = (
      sif (le3 0 (a.length : Int) (a.length : Int) && room a.length 128)
       (laws_toTypeS_l3 a 0 (List.replicate a.length ((Ty_Type.mk 0 0 false false ([] : List ByteArray) ([] : List Int) ([] : List (ByteArray × Int × Ty_Type)) ([] : List Ty_Type) 0) : Ty_Type))) (none)) := sem_eq (f := 75) (m := 0) rfl (by kernel_rfl)
theorem laws_toTypeS_l3_eq (a : List Ty_Type) (i : Int) (out : List Ty_Type) :
    laws_toTypeS_l3 a i out = (
      sif (decide (i < (a.length : Int)))
       (sbind (idx a i) fun x1 =>
        sbind (laws_toType x1.f_Kind x1.f_Size x1.f_Signed x1.f_Big x1.f_Names x1.f_Nums x1.f_Members x1.f_Base x1.f_Count) fun r2 =>
        sif (lt3 0 i (out.length : Int))
         (laws_toTypeS_l3 a (wi64 (i + 1)) (out.set i.toNat (Ty_Type.mk r2.1 r2.2.1 r2.2.2.1 r2.2.2.2.1 r2.2.2.2.2.2.1 r2.2.2.2.2.2.2.1 r2.2.2.2.2.2.2.2.1 r2.2.2.2.2.2.2.2.2 r2.2.2.2.2.1))) (none)) (some out)) := seml_eq (f := 75) (m := 0) (l := 3) (by kernel_rfl)
theorem spec_ElementText_eq (t_Kind : Int) (t_Size : Int) (t_Signed : Bool) (t_Big : Bool) (t_Names : List ByteArray) (t_Nums : List Int) (t_Members : List (ByteArray × Int × Ty_Type)) (t_Base : List Ty_Type) (t_Count : Int) (b : ByteArray) :
    spec_ElementText t_Kind t_Size t_Signed t_Big t_Names t_Nums t_Members t_Base t_Count b = (
      sbind (spec_ValidElement t_Kind t_Size t_Signed t_Big t_Names t_Nums t_Members t_Base t_Count b) fun r1 =>
      sif (!r1) (some (bs [])) <|
      sbind (spec_l03Show t_Kind t_Size t_Signed t_Big t_Names t_Nums t_Members t_Base t_Count b) fun r2 =>
      some r2) := sem_eq (f := 28) (m := 0) rfl (by kernel_rfl)
theorem spec_ValidElement_eq (t_Kind : Int) (t_Size : Int) (t_Signed : Bool) (t_Big : Bool) (t_Names : List ByteArray) (t_Nums : List Int) (t_Members : List (ByteArray × Int × Ty_Type)) (t_Base : List Ty_Type) (t_Count : Int) (b : ByteArray) :
    spec_ValidElement t_Kind t_Size t_Signed t_Big t_Names t_Nums t_Members t_Base t_Count b = (
      sbind (spec_l02Ok t_Kind t_Size t_Signed t_Big t_Names t_Nums t_Members t_Base t_Count) fun r1 =>
      sif (r1)
       (sbind (spec_l03Ok t_Kind t_Size t_Signed t_Big t_Names t_Nums t_Members t_Base t_Count b) fun r2 =>
        some r2) (some false)) := sem_eq (f := 71) (m := 0) rfl (by kernel_rfl)
theorem spec_l02Ok_eq (t_Kind : Int) (t_Size : Int) (t_Signed : Bool) (t_Big : Bool) (t_Names : List ByteArray) (t_Nums : List Int) (t_Members : List (ByteArray × Int × Ty_Type)) (t_Base : List Ty_Type) (t_Count : Int) :
    spec_l02Ok t_Kind t_Size t_Signed t_Big t_Names t_Nums t_Members t_Base t_Count = (
      sif ((t_Kind == 1))
       (sbind (spec_l02Int t_Kind t_Size t_Signed t_Big t_Names t_Nums t_Members t_Base t_Count) fun r1 =>
        spec_l02Ok_l15 r1 t_Kind t_Size t_Signed t_Big t_Names t_Nums t_Members t_Base t_Count) <|
      sif ((t_Kind == 2))
       (sbind (spec_l00In t_Size 1 16) fun r1 =>
        spec_l02Ok_l15 r1 t_Kind t_Size t_Signed t_Big t_Names t_Nums t_Members t_Base t_Count) <|
      sif ((t_Kind == 3))
       (sbind (spec_l02Enum t_Kind t_Size t_Signed t_Big t_Names t_Nums t_Members t_Base t_Count) fun r1 =>
        spec_l02Ok_l15 r1 t_Kind t_Size t_Signed t_Big t_Names t_Nums t_Members t_Base t_Count) <|
      sif ((t_Kind == 4))
       (sbind (spec_l02Compound t_Kind t_Size t_Signed t_Big t_Names t_Nums t_Members t_Base t_Count) fun r1 =>
        spec_l02Ok_l15 r1 t_Kind t_Size t_Signed t_Big t_Names t_Nums t_Members t_Base t_Count) <|
      sif ((t_Kind == 5))
       (sbind (spec_l02Array t_Kind t_Size t_Signed t_Big t_Names t_Nums t_Members t_Base t_Count) fun r1 =>
        spec_l02Ok_l15 r1 t_Kind t_Size t_Signed t_Big t_Names t_Nums t_Members t_Base t_Count) <|
      sif ((t_Kind == 6))
       (spec_l02Ok_l15 (t_Size == 2) t_Kind t_Size t_Signed t_Big t_Names t_Nums t_Members t_Base t_Count) <|
      spec_l02Ok_l15 false t_Kind t_Size t_Signed t_Big t_Names t_Nums t_Members t_Base t_Count) := sem_eq (f := 96) (m := 0) rfl (by kernel_rfl)
theorem spec_l02Ok_l15_eq (fine : Bool) (t_Kind : Int) (t_Size : Int) (t_Signed : Bool) (t_Big : Bool) (t_Names : List ByteArray) (t_Nums : List Int) (t_Members : List (ByteArray × Int × Ty_Type)) (t_Base : List Ty_Type) (t_Count : Int) :
    spec_l02Ok_l15 fine t_Kind t_Size t_Signed t_Big t_Names t_Nums t_Members t_Base t_Count = (
      sif ((t_Kind == 2))
       (sif (fine)
         (sbind (spec_l02Plain t_Kind t_Size t_Signed t_Big t_Names t_Nums t_Members t_Base t_Count) fun r1 =>
          sif (r1)
           (sif (((t_Names.length : Int) == 0))
             (sif (((t_Nums.length : Int) == 0))
               (sif (((t_Members.length : Int) == 0))
                 (sif (((t_Base.length : Int) == 0))
                   (spec_l02Ok_l17 (t_Count == 0) t_Kind t_Size t_Signed t_Big t_Names t_Nums t_Members t_Base t_Count) <|
                  spec_l02Ok_l17 false t_Kind t_Size t_Signed t_Big t_Names t_Nums t_Members t_Base t_Count) <|
                spec_l02Ok_l17 false t_Kind t_Size t_Signed t_Big t_Names t_Nums t_Members t_Base t_Count) <|
              spec_l02Ok_l17 false t_Kind t_Size t_Signed t_Big t_Names t_Nums t_Members t_Base t_Count) <|
            spec_l02Ok_l17 false t_Kind t_Size t_Signed t_Big t_Names t_Nums t_Members t_Base t_Count) <|
          spec_l02Ok_l17 false t_Kind t_Size t_Signed t_Big t_Names t_Nums t_Members t_Base t_Count) <|
        spec_l02Ok_l17 false t_Kind t_Size t_Signed t_Big t_Names t_Nums t_Members t_Base t_Count) <|
      sif ((t_Kind == 6))
       (sif (fine)
         (sbind (spec_l02Plain t_Kind t_Size t_Signed t_Big t_Names t_Nums t_Members t_Base t_Count) fun r1 =>
          sif (r1)
           (sif (((t_Names.length : Int) == 0))
             (sif (((t_Nums.length : Int) == 0))
               (sif (((t_Members.length : Int) == 0))
                 (sif (((t_Base.length : Int) == 0))
                   (spec_l02Ok_l17 (t_Count == 0) t_Kind t_Size t_Signed t_Big t_Names t_Nums t_Members t_Base t_Count) <|
                  spec_l02Ok_l17 false t_Kind t_Size t_Signed t_Big t_Names t_Nums t_Members t_Base t_Count) <|
                spec_l02Ok_l17 false t_Kind t_Size t_Signed t_Big t_Names t_Nums t_Members t_Base t_Count) <|
              spec_l02Ok_l17 false t_Kind t_Size t_Signed t_Big t_Names t_Nums t_Members t_Base t_Count) <|
            spec_l02Ok_l17 false t_Kind t_Size t_Signed t_Big t_Names t_Nums t_Members t_Base t_Count) <|
          spec_l02Ok_l17 false t_Kind t_Size t_Signed t_Big t_Names t_Nums t_Members t_Base t_Count) <|
        spec_l02Ok_l17 false t_Kind t_Size t_Signed t_Big t_Names t_Nums t_Members t_Base t_Count) <|
      spec_l02Ok_l17 fine t_Kind t_Size t_Signed t_Big t_Names t_Nums t_Members t_Base t_Count) := seml_eq (f := 96) (m := 0) (l := 15) (by kernel_rfl)
theorem spec_l02Ok_l17_eq (fine : Bool) (t_Kind : Int) (t_Size : Int) (t_Signed : Bool) (t_Big : Bool) (t_Names : List ByteArray) (t_Nums : List Int) (t_Members : List (ByteArray × Int × Ty_Type)) (t_Base : List Ty_Type) (t_Count : Int) :
    spec_l02Ok_l17 fine t_Kind t_Size t_Signed t_Big t_Names t_Nums t_Members t_Base t_Count = (
      sif (fine)
       (sbind (spec_l02Size t_Kind t_Size t_Signed t_Big t_Names t_Nums t_Members t_Base t_Count) fun r1 =>
        sif (decide (r1 ≤ 24))
         (sbind (spec_l02Depth t_Kind t_Size t_Signed t_Big t_Names t_Nums t_Members t_Base t_Count) fun r2 =>
          some (decide (r2 ≤ 3))) (some false)) (some false)) := seml_eq (f := 96) (m := 0) (l := 17) (by kernel_rfl)
theorem spec_l02Int_eq (t_Kind : Int) (t_Size : Int) (t_Signed : Bool) (t_Big : Bool) (t_Names : List ByteArray) (t_Nums : List Int) (t_Members : List (ByteArray × Int × Ty_Type)) (t_Base : List Ty_Type) (t_Count : Int) :
    spec_l02Int t_Kind t_Size t_Signed t_Big t_Names t_Nums t_Members t_Base t_Count = (
      sbind (spec_l00Has ([1, 2, 4, 8] : List Int) t_Size) fun r1 =>
      sif (!r1) (some false) <|
      sif ((t_Size == 8))
       (sif (!t_Signed) (some false) <|
        sif ((t_Size == 1))
         (sif (t_Big) (some false) <|
          sif (((t_Names.length : Int) == 0))
           (sif (((t_Nums.length : Int) == 0))
             (sif (((t_Members.length : Int) == 0)) (sif (((t_Base.length : Int) == 0)) (some (t_Count == 0)) (some false)) (some false)) (some false)) (some false)) <|
        sif (((t_Names.length : Int) == 0))
         (sif (((t_Nums.length : Int) == 0))
           (sif (((t_Members.length : Int) == 0)) (sif (((t_Base.length : Int) == 0)) (some (t_Count == 0)) (some false)) (some false)) (some false)) (some false)) <|
      sif ((t_Size == 1))
       (sif (t_Big) (some false) <|
        sif (((t_Names.length : Int) == 0))
         (sif (((t_Nums.length : Int) == 0))
           (sif (((t_Members.length : Int) == 0)) (sif (((t_Base.length : Int) == 0)) (some (t_Count == 0)) (some false)) (some false)) (some false)) (some false)) <|
      sif (((t_Names.length : Int) == 0))
       (sif (((t_Nums.length : Int) == 0))
         (sif (((t_Members.length : Int) == 0)) (sif (((t_Base.length : Int) == 0)) (some (t_Count == 0)) (some false)) (some false)) (some false)) (some false)) := sem_eq (f := 179) (m := 0) rfl (by kernel_rfl)
theorem spec_l00Has_eq (list : List Int) (n : Int) :
    spec_l00Has list n = (
      spec_l00Has_l2 list n 0) := sem_eq (f := 103) (m := 0) rfl (by kernel_rfl)
theorem spec_l00Has_l2_eq (list : List Int) (n : Int) (i : Int) :
    spec_l00Has_l2 list n i = (
      sif (decide (i < (list.length : Int)))
       (sbind (idx list i) fun x1 =>
        sif ((x1 == n)) (some true) (spec_l00Has_l2 list n (wi64 (i + 1)))) (some false)) := seml_eq (f := 103) (m := 0) (l := 2) (by kernel_rfl)
theorem spec_l00In_eq (n : Int) (low : Int) (high : Int) :
    spec_l00In n low high = (
      sif (decide (n ≥ low)) (some (decide (n ≤ high))) (some false)) := sem_eq (f := 118) (m := 0) rfl (by kernel_rfl)
theorem spec_l02Enum_eq (t_Kind : Int) (t_Size : Int) (t_Signed : Bool) (t_Big : Bool) (t_Names : List ByteArray) (t_Nums : List Int) (t_Members : List (ByteArray × Int × Ty_Type)) (t_Base : List Ty_Type) (t_Count : Int) :
    spec_l02Enum t_Kind t_Size t_Signed t_Big t_Names t_Nums t_Members t_Base t_Count = (
      sif ((t_Size != 0)) (some false) <|
      sbind (spec_l02Plain t_Kind t_Size t_Signed t_Big t_Names t_Nums t_Members t_Base t_Count) fun r1 =>
      sif (!r1) (some false) <|
      sif (decide ((t_Members.length : Int) > 0)) (some false) <|
      sif ((t_Count != 0)) (some false) <|
      sif (((t_Base.length : Int) != 1)) (some false) <|
      sbind (idx t_Base 0) fun x2 =>
      sif ((x2.f_Kind != 1)) (some false) <|
      sbind (idx t_Base 0) fun x3 =>
      sbind (spec_l02Int x3.f_Kind x3.f_Size x3.f_Signed x3.f_Big x3.f_Names x3.f_Nums x3.f_Members x3.f_Base x3.f_Count) fun r4 =>
      sif (!r4) (some false) <|
      sif (decide ((t_Names.length : Int) < 1)) (some false) <|
      sif (decide ((t_Names.length : Int) > 6)) (some false) <|
      sif (((t_Nums.length : Int) != (t_Names.length : Int))) (some false) <|
      sbind (idx t_Base 0) fun x5 =>
      sbind (spec_l02Range x5.f_Kind x5.f_Size x5.f_Signed x5.f_Big x5.f_Names x5.f_Nums x5.f_Members x5.f_Base x5.f_Count) fun r6 =>
      spec_l02Enum_l7 r6.1 r6.2 0 t_Kind t_Size t_Signed t_Big t_Names t_Nums t_Members t_Base t_Count) := sem_eq (f := 180) (m := 0) rfl (by kernel_rfl)
theorem spec_l02Enum_l7_eq (low : Int) (high : Int) (i : Int) (t_Kind : Int) (t_Size : Int) (t_Signed : Bool) (t_Big : Bool) (t_Names : List ByteArray) (t_Nums : List Int) (t_Members : List (ByteArray × Int × Ty_Type)) (t_Base : List Ty_Type) (t_Count : Int) :
    spec_l02Enum_l7 low high i t_Kind t_Size t_Signed t_Big t_Names t_Nums t_Members t_Base t_Count = (
      sif (decide (i < (t_Names.length : Int)))
       (sbind (idx t_Names i) fun x1 =>
        sbind (spec_IsName x1) fun r2 =>
        sif (!r2) (some false) <|
        sbind (idx t_Nums i) fun x3 =>
        sbind (spec_l00In x3 low high) fun r4 =>
        sif (!r4) (some false) <|
        sif (decide (i > 0))
         (sbind (idx t_Nums (wi64 (i - 1))) fun x5 =>
          sbind (idx t_Nums i) fun x6 =>
          sif (decide (x5 ≥ x6)) (some false) <|
          spec_l02Enum_l12 low high i 0 t_Kind t_Size t_Signed t_Big t_Names t_Nums t_Members t_Base t_Count) <|
        spec_l02Enum_l12 low high i 0 t_Kind t_Size t_Signed t_Big t_Names t_Nums t_Members t_Base t_Count) (some true)) := seml_eq (f := 180) (m := 0) (l := 7) (by kernel_rfl)
theorem spec_l02Enum_l12_eq (low : Int) (high : Int) (i : Int) (k : Int) (t_Kind : Int) (t_Size : Int) (t_Signed : Bool) (t_Big : Bool) (t_Names : List ByteArray) (t_Nums : List Int) (t_Members : List (ByteArray × Int × Ty_Type)) (t_Base : List Ty_Type) (t_Count : Int) :
    spec_l02Enum_l12 low high i k t_Kind t_Size t_Signed t_Big t_Names t_Nums t_Members t_Base t_Count = (
      sif (decide (k < i))
       (sbind (idx t_Names k) fun x1 =>
        sbind (idx t_Names i) fun x2 =>
        sif (seq x1 x2) (some false) <|
        spec_l02Enum_l12 low high i (wi64 (k + 1)) t_Kind t_Size t_Signed t_Big t_Names t_Nums t_Members t_Base t_Count) <|
      spec_l02Enum_l7 low high (wi64 (i + 1)) t_Kind t_Size t_Signed t_Big t_Names t_Nums t_Members t_Base t_Count) := seml_eq (f := 180) (m := 0) (l := 12) (by kernel_rfl)
theorem spec_l02Plain_eq (t_Kind : Int) (t_Size : Int) (t_Signed : Bool) (t_Big : Bool) (t_Names : List ByteArray) (t_Nums : List Int) (t_Members : List (ByteArray × Int × Ty_Type)) (t_Base : List Ty_Type) (t_Count : Int) :
    spec_l02Plain t_Kind t_Size t_Signed t_Big t_Names t_Nums t_Members t_Base t_Count = (
      sif (!t_Signed) (some !t_Big) (some false)) := sem_eq (f := 183) (m := 0) rfl (by kernel_rfl)
theorem spec_l02Range_eq (t_Kind : Int) (t_Size : Int) (t_Signed : Bool) (t_Big : Bool) (t_Names : List ByteArray) (t_Nums : List Int) (t_Members : List (ByteArray × Int × Ty_Type)) (t_Base : List Ty_Type) (t_Count : Int) :
    spec_l02Range t_Kind t_Size t_Signed t_Big t_Names t_Nums t_Members t_Base t_Count = (
      sif (!t_Signed)
       (sif (decide (wu64 (wi64 (8 * t_Size)) < 0)) (none) <|
        some (0, wi64 ((wi64 (1 * 2 ^ (min (wu64 (wi64 (8 * t_Size))).toNat 64))) - 1))) <|
      sif (decide (wu64 ((wu64 (wi64 (8 * t_Size))) - 1) < 0)) (none) <|
      some (wi64 ((wi64 (0 - (wi64 ((wi64 (1 * 2 ^ (min (wu64 ((wu64 (wi64 (8 * t_Size))) - 1)).toNat 64))) - 1)))) - 1), wi64 ((wi64 (1 * 2 ^ (min (wu64 ((wu64 (wi64 (8 * t_Size))) - 1)).toNat 64))) - 1))) := sem_eq (f := 247) (m := 0) rfl (by kernel_rfl)
theorem spec_IsName_eq (s : ByteArray) :
    spec_IsName s = (
      sif (((s.size : Int) == 0)) (some false) <|
      sif (decide ((s.size : Int) > 12)) (some false) <|
      sbind (bidx s 0) fun b1 =>
      sbind (spec_l01Letter b1) fun r2 =>
      sif (!r2) (some false) (spec_IsName_l4 s 1)) := sem_eq (f := 125) (m := 0) rfl (by kernel_rfl)
theorem spec_IsName_l4_eq (s : ByteArray) (i : Int) :
    spec_IsName_l4 s i = (
      sif (decide (i < (s.size : Int)))
       (sbind (bidx s i) fun b1 =>
        sbind (spec_l01Letter b1) fun r2 =>
        sif (!r2)
         (sbind (bidx s i) fun b3 =>
          sif (decide (b3 ≥ 48))
           (sbind (bidx s i) fun b4 =>
            sif (!(decide (b4 ≤ 57)))
             (sbind (bidx s i) fun b5 =>
              sif ((b5 != 95)) (some false) (spec_IsName_l4 s (wi64 (i + 1)))) (spec_IsName_l4 s (wi64 (i + 1)))) <|
          sbind (bidx s i) fun b4 =>
          sif ((b4 != 95)) (some false) (spec_IsName_l4 s (wi64 (i + 1)))) (spec_IsName_l4 s (wi64 (i + 1)))) (some true)) := seml_eq (f := 125) (m := 0) (l := 4) (by kernel_rfl)
theorem spec_l01Letter_eq (c : Int) :
    spec_l01Letter c = (
      sif (decide (c ≥ 65))
       (sif (decide (c ≤ 90)) (some true) <|
        sif (decide (c ≥ 97)) (some (decide (c ≤ 122))) (some false)) <|
      sif (decide (c ≥ 97)) (some (decide (c ≤ 122))) (some false)) := sem_eq (f := 200) (m := 0) rfl (by kernel_rfl)
theorem spec_l02Compound_eq (t_Kind : Int) (t_Size : Int) (t_Signed : Bool) (t_Big : Bool) (t_Names : List ByteArray) (t_Nums : List Int) (t_Members : List (ByteArray × Int × Ty_Type)) (t_Base : List Ty_Type) (t_Count : Int) :
    spec_l02Compound t_Kind t_Size t_Signed t_Big t_Names t_Nums t_Members t_Base t_Count = (
      sbind (spec_l00In t_Size 1 24) fun r1 =>
      sif (!r1) (some false) <|
      sbind (spec_l02Plain t_Kind t_Size t_Signed t_Big t_Names t_Nums t_Members t_Base t_Count) fun r2 =>
      sif (!r2) (some false) <|
      sif (decide ((t_Names.length : Int) > 0)) (some false) <|
      sif (decide ((t_Nums.length : Int) > 0)) (some false) <|
      sif (decide ((t_Base.length : Int) > 0)) (some false) <|
      sif ((t_Count != 0)) (some false) <|
      sif (decide ((t_Members.length : Int) < 1)) (some false) <|
      sif (decide ((t_Members.length : Int) > 4)) (some false) <|
      spec_l02Compound_l7 0 0 t_Kind t_Size t_Signed t_Big t_Names t_Nums t_Members t_Base t_Count) := sem_eq (f := 181) (m := 0) rfl (by kernel_rfl)
theorem spec_l02Compound_l7_eq (end_ : Int) (i : Int) (t_Kind : Int) (t_Size : Int) (t_Signed : Bool) (t_Big : Bool) (t_Names : List ByteArray) (t_Nums : List Int) (t_Members : List (ByteArray × Int × Ty_Type)) (t_Base : List Ty_Type) (t_Count : Int) :
    spec_l02Compound_l7 end_ i t_Kind t_Size t_Signed t_Big t_Names t_Nums t_Members t_Base t_Count = (
      sif (decide (i < (t_Members.length : Int)))
       (sbind (idx t_Members i) fun x1 =>
        sbind (spec_IsName x1.1) fun r2 =>
        sif (!r2) (some false) <|
        sif (decide (x1.2.1 < end_)) (some false) <|
        sif (decide (x1.2.1 > 24)) (some false) <|
        sbind (spec_l02Ok x1.2.2.f_Kind x1.2.2.f_Size x1.2.2.f_Signed x1.2.2.f_Big x1.2.2.f_Names x1.2.2.f_Nums x1.2.2.f_Members x1.2.2.f_Base x1.2.2.f_Count) fun r3 =>
        sif (!r3) (some false) <|
        spec_l02Compound_l13 i 0 t_Kind t_Size t_Signed t_Big t_Names t_Nums t_Members t_Base t_Count x1.1 x1.2.1 x1.2.2.f_Kind x1.2.2.f_Size x1.2.2.f_Signed x1.2.2.f_Big x1.2.2.f_Names x1.2.2.f_Nums x1.2.2.f_Members x1.2.2.f_Base x1.2.2.f_Count) (some (decide (end_ ≤ t_Size)))) := seml_eq (f := 181) (m := 0) (l := 7) (by kernel_rfl)
theorem spec_l02Compound_l13_eq (i : Int) (k : Int) (t_Kind : Int) (t_Size : Int) (t_Signed : Bool) (t_Big : Bool) (t_Names : List ByteArray) (t_Nums : List Int) (t_Members : List (ByteArray × Int × Ty_Type)) (t_Base : List Ty_Type) (t_Count : Int) (m_Name : ByteArray) (m_Offset : Int) (m_Type_Kind : Int) (m_Type_Size : Int) (m_Type_Signed : Bool) (m_Type_Big : Bool) (m_Type_Names : List ByteArray) (m_Type_Nums : List Int) (m_Type_Members : List (ByteArray × Int × Ty_Type)) (m_Type_Base : List Ty_Type) (m_Type_Count : Int) :
    spec_l02Compound_l13 i k t_Kind t_Size t_Signed t_Big t_Names t_Nums t_Members t_Base t_Count m_Name m_Offset m_Type_Kind m_Type_Size m_Type_Signed m_Type_Big m_Type_Names m_Type_Nums m_Type_Members m_Type_Base m_Type_Count = (
      sif (decide (k < i))
       (sbind (idx t_Members k) fun x1 =>
        sif (seq x1.1 m_Name) (some false) <|
        spec_l02Compound_l13 i (wi64 (k + 1)) t_Kind t_Size t_Signed t_Big t_Names t_Nums t_Members t_Base t_Count m_Name m_Offset m_Type_Kind m_Type_Size m_Type_Signed m_Type_Big m_Type_Names m_Type_Nums m_Type_Members m_Type_Base m_Type_Count) <|
      sbind (spec_l02Size m_Type_Kind m_Type_Size m_Type_Signed m_Type_Big m_Type_Names m_Type_Nums m_Type_Members m_Type_Base m_Type_Count) fun r1 =>
      spec_l02Compound_l7 (wi64 (m_Offset + r1)) (wi64 (i + 1)) t_Kind t_Size t_Signed t_Big t_Names t_Nums t_Members t_Base t_Count) := seml_eq (f := 181) (m := 0) (l := 13) (by kernel_rfl)
theorem spec_l02Size_eq (t_Kind : Int) (t_Size : Int) (t_Signed : Bool) (t_Big : Bool) (t_Names : List ByteArray) (t_Nums : List Int) (t_Members : List (ByteArray × Int × Ty_Type)) (t_Base : List Ty_Type) (t_Count : Int) :
    spec_l02Size t_Kind t_Size t_Signed t_Big t_Names t_Nums t_Members t_Base t_Count = (
      sif ((t_Kind == 3))
       (sbind (idx t_Base 0) fun x1 =>
        some x1.f_Size) <|
      sif ((t_Kind == 5))
       (sbind (idx t_Base 0) fun x1 =>
        sbind (spec_l02Size x1.f_Kind x1.f_Size x1.f_Signed x1.f_Big x1.f_Names x1.f_Nums x1.f_Members x1.f_Base x1.f_Count) fun r2 =>
        some (wi64 (t_Count * r2))) (some t_Size)) := sem_eq (f := 145) (m := 0) rfl (by kernel_rfl)
theorem spec_l02Array_eq (t_Kind : Int) (t_Size : Int) (t_Signed : Bool) (t_Big : Bool) (t_Names : List ByteArray) (t_Nums : List Int) (t_Members : List (ByteArray × Int × Ty_Type)) (t_Base : List Ty_Type) (t_Count : Int) :
    spec_l02Array t_Kind t_Size t_Signed t_Big t_Names t_Nums t_Members t_Base t_Count = (
      sif ((t_Size != 0)) (some false) <|
      sbind (spec_l02Plain t_Kind t_Size t_Signed t_Big t_Names t_Nums t_Members t_Base t_Count) fun r1 =>
      sif (!r1) (some false) <|
      sif (decide ((t_Names.length : Int) > 0)) (some false) <|
      sif (decide ((t_Nums.length : Int) > 0)) (some false) <|
      sif (decide ((t_Members.length : Int) > 0)) (some false) <|
      sif (((t_Base.length : Int) != 1)) (some false) <|
      sbind (spec_l00In t_Count 1 4) fun r2 =>
      sif (r2)
       (sbind (idx t_Base 0) fun x3 =>
        sbind (spec_l02Ok x3.f_Kind x3.f_Size x3.f_Signed x3.f_Big x3.f_Names x3.f_Nums x3.f_Members x3.f_Base x3.f_Count) fun r4 =>
        some r4) (some false)) := sem_eq (f := 182) (m := 0) rfl (by kernel_rfl)
theorem spec_l02Depth_eq (t_Kind : Int) (t_Size : Int) (t_Signed : Bool) (t_Big : Bool) (t_Names : List ByteArray) (t_Nums : List Int) (t_Members : List (ByteArray × Int × Ty_Type)) (t_Base : List Ty_Type) (t_Count : Int) :
    spec_l02Depth t_Kind t_Size t_Signed t_Big t_Names t_Nums t_Members t_Base t_Count = (
      sif ((t_Kind == 4)) (spec_l02Depth_l5 0 0 t_Kind t_Size t_Signed t_Big t_Names t_Nums t_Members t_Base t_Count) <|
      sif ((t_Kind == 5))
       (sbind (idx t_Base 0) fun x1 =>
        sbind (spec_l02Depth x1.f_Kind x1.f_Size x1.f_Signed x1.f_Big x1.f_Names x1.f_Nums x1.f_Members x1.f_Base x1.f_Count) fun r2 =>
        some (wi64 (r2 + 1))) (some 1)) := sem_eq (f := 184) (m := 0) rfl (by kernel_rfl)
theorem spec_l02Depth_l5_eq (deep : Int) (i : Int) (t_Kind : Int) (t_Size : Int) (t_Signed : Bool) (t_Big : Bool) (t_Names : List ByteArray) (t_Nums : List Int) (t_Members : List (ByteArray × Int × Ty_Type)) (t_Base : List Ty_Type) (t_Count : Int) :
    spec_l02Depth_l5 deep i t_Kind t_Size t_Signed t_Big t_Names t_Nums t_Members t_Base t_Count = (
      sif (decide (i < (t_Members.length : Int)))
       (sbind (idx t_Members i) fun x1 =>
        sbind (spec_l02Depth x1.2.2.f_Kind x1.2.2.f_Size x1.2.2.f_Signed x1.2.2.f_Big x1.2.2.f_Names x1.2.2.f_Nums x1.2.2.f_Members x1.2.2.f_Base x1.2.2.f_Count) fun r2 =>
        sbind (spec_l00Max deep r2) fun r3 =>
        spec_l02Depth_l5 r3 (wi64 (i + 1)) t_Kind t_Size t_Signed t_Big t_Names t_Nums t_Members t_Base t_Count) (some (wi64 (deep + 1)))) := seml_eq (f := 184) (m := 0) (l := 5) (by kernel_rfl)
theorem spec_l00Max_eq (a : Int) (b : Int) :
    spec_l00Max a b = (
      sif (decide (a > b)) (some a) (some b)) := sem_eq (f := 248) (m := 0) rfl (by kernel_rfl)
theorem spec_l03Ok_eq (t_Kind : Int) (t_Size : Int) (t_Signed : Bool) (t_Big : Bool) (t_Names : List ByteArray) (t_Nums : List Int) (t_Members : List (ByteArray × Int × Ty_Type)) (t_Base : List Ty_Type) (t_Count : Int) (b : ByteArray) :
    spec_l03Ok t_Kind t_Size t_Signed t_Big t_Names t_Nums t_Members t_Base t_Count b = (
      sbind (spec_l02Size t_Kind t_Size t_Signed t_Big t_Names t_Nums t_Members t_Base t_Count) fun r1 =>
      sif (((b.size : Int) != r1)) (some false) <|
      sif ((t_Kind == 2))
       (sbind (spec_l03Text b) fun r2 =>
        some r2) <|
      sif ((t_Kind == 3))
       (sbind (idx t_Base 0) fun x2 =>
        sbind (spec_l03Number x2.f_Kind x2.f_Size x2.f_Signed x2.f_Big x2.f_Names x2.f_Nums x2.f_Members x2.f_Base x2.f_Count b) fun r3 =>
        sbind (spec_l00Has t_Nums r3) fun r4 =>
        some r4) <|
      sif ((t_Kind == 4))
       (sbind (spec_l03Compound t_Kind t_Size t_Signed t_Big t_Names t_Nums t_Members t_Base t_Count b) fun r2 =>
        some r2) <|
      sif ((t_Kind == 5))
       (sbind (idx t_Base 0) fun x2 =>
        sbind (spec_l02Size x2.f_Kind x2.f_Size x2.f_Signed x2.f_Big x2.f_Names x2.f_Nums x2.f_Members x2.f_Base x2.f_Count) fun r3 =>
        spec_l03Ok_l13 b r3 0 t_Kind t_Size t_Signed t_Big t_Names t_Nums t_Members t_Base t_Count) (some true)) := sem_eq (f := 99) (m := 0) rfl (by kernel_rfl)
theorem spec_l03Ok_l13_eq (b : ByteArray) (size : Int) (k : Int) (t_Kind : Int) (t_Size : Int) (t_Signed : Bool) (t_Big : Bool) (t_Names : List ByteArray) (t_Nums : List Int) (t_Members : List (ByteArray × Int × Ty_Type)) (t_Base : List Ty_Type) (t_Count : Int) :
    spec_l03Ok_l13 b size k t_Kind t_Size t_Signed t_Big t_Names t_Nums t_Members t_Base t_Count = (
      sif (decide (k < t_Count))
       (sbind (idx t_Base 0) fun x1 =>
        sif (le3 0 (wi64 ((wi64 (k + 1)) * size)) (b.size : Int))
         (sif (le3 0 (wi64 (k * size)) (wi64 ((wi64 (k + 1)) * size)))
           (sbind (spec_l03Ok x1.f_Kind x1.f_Size x1.f_Signed x1.f_Big x1.f_Names x1.f_Nums x1.f_Members x1.f_Base x1.f_Count (b.extract ((wi64 (k * size)).toNat) ((wi64 ((wi64 (k + 1)) * size)).toNat))) fun r2 =>
            sif (!r2) (some false) <|
            spec_l03Ok_l13 b size (wi64 (k + 1)) t_Kind t_Size t_Signed t_Big t_Names t_Nums t_Members t_Base t_Count) (none)) (none)) (some true)) := seml_eq (f := 99) (m := 0) (l := 13) (by kernel_rfl)
theorem spec_l03Text_eq (b : ByteArray) :
    spec_l03Text b = (
      spec_l03Text_l3 b false 0) := sem_eq (f := 186) (m := 0) rfl (by kernel_rfl)
theorem spec_l03Text_l3_eq (b : ByteArray) (end_ : Bool) (i : Int) :
    spec_l03Text_l3 b end_ i = (
      sif (decide (i < (b.size : Int)))
       (sif (end_)
         (sbind (bidx b i) fun b1 =>
          sif ((b1 != 0)) (some false) <|
          sif (end_) (spec_l03Text_l3 b true (wi64 (i + 1))) <|
          sbind (bidx b i) fun b2 =>
          spec_l03Text_l3 b (b2 == 0) (wi64 (i + 1))) <|
        sif (end_) (spec_l03Text_l3 b true (wi64 (i + 1))) <|
        sbind (bidx b i) fun b1 =>
        spec_l03Text_l3 b (b1 == 0) (wi64 (i + 1))) (some true)) := seml_eq (f := 186) (m := 0) (l := 3) (by kernel_rfl)
theorem spec_l03Number_eq (t_Kind : Int) (t_Size : Int) (t_Signed : Bool) (t_Big : Bool) (t_Names : List ByteArray) (t_Nums : List Int) (t_Members : List (ByteArray × Int × Ty_Type)) (t_Base : List Ty_Type) (t_Count : Int) (b : ByteArray) :
    spec_l03Number t_Kind t_Size t_Signed t_Big t_Names t_Nums t_Members t_Base t_Count b = (
      spec_l03Number_l3 b 0 0 t_Kind t_Size t_Signed t_Big t_Names t_Nums t_Members t_Base t_Count) := sem_eq (f := 143) (m := 0) rfl (by kernel_rfl)
theorem spec_l03Number_l3_eq (b : ByteArray) (n : Int) (i : Int) (t_Kind : Int) (t_Size : Int) (t_Signed : Bool) (t_Big : Bool) (t_Names : List ByteArray) (t_Nums : List Int) (t_Members : List (ByteArray × Int × Ty_Type)) (t_Base : List Ty_Type) (t_Count : Int) :
    spec_l03Number_l3 b n i t_Kind t_Size t_Signed t_Big t_Names t_Nums t_Members t_Base t_Count = (
      sif (decide (i < (b.size : Int)))
       (sif (t_Big)
         (sbind (bidx b i) fun b1 =>
          spec_l03Number_l3 b (bits .or .i64 (wi64 (n * 2 ^ 8)) (wi64 b1)) (wi64 (i + 1)) t_Kind t_Size t_Signed t_Big t_Names t_Nums t_Members t_Base t_Count) <|
        sbind (bidx b (wi64 ((wi64 ((b.size : Int) - 1)) - i))) fun b1 =>
        spec_l03Number_l3 b (bits .or .i64 (wi64 (n * 2 ^ 8)) (wi64 b1)) (wi64 (i + 1)) t_Kind t_Size t_Signed t_Big t_Names t_Nums t_Members t_Base t_Count) <|
      sif (t_Signed)
       (sif (decide (t_Size < 8))
         (sif (decide (wu64 (wi64 ((wi64 (8 * t_Size)) - 1)) < 0)) (none) <|
          sif (decide (n ≥ wi64 (1 * 2 ^ (min (wu64 (wi64 ((wi64 (8 * t_Size)) - 1))).toNat 64))))
           (sif (decide (wu64 (wi64 (8 * t_Size)) < 0)) (none) <|
            some (wi64 (n - (wi64 (1 * 2 ^ (min (wu64 (wi64 (8 * t_Size))).toNat 64)))))) (some n)) (some n)) (some n)) := seml_eq (f := 143) (m := 0) (l := 3) (by kernel_rfl)
theorem spec_l03Compound_eq (t_Kind : Int) (t_Size : Int) (t_Signed : Bool) (t_Big : Bool) (t_Names : List ByteArray) (t_Nums : List Int) (t_Members : List (ByteArray × Int × Ty_Type)) (t_Base : List Ty_Type) (t_Count : Int) (b : ByteArray) :
    spec_l03Compound t_Kind t_Size t_Signed t_Big t_Names t_Nums t_Members t_Base t_Count b = (
      spec_l03Compound_l3 b 0 0 t_Kind t_Size t_Signed t_Big t_Names t_Nums t_Members t_Base t_Count) := sem_eq (f := 187) (m := 0) rfl (by kernel_rfl)
theorem spec_l03Compound_l3_eq (b : ByteArray) (at_ : Int) (i : Int) (t_Kind : Int) (t_Size : Int) (t_Signed : Bool) (t_Big : Bool) (t_Names : List ByteArray) (t_Nums : List Int) (t_Members : List (ByteArray × Int × Ty_Type)) (t_Base : List Ty_Type) (t_Count : Int) :
    spec_l03Compound_l3 b at_ i t_Kind t_Size t_Signed t_Big t_Names t_Nums t_Members t_Base t_Count = (
      sif (decide (i ≤ (t_Members.length : Int)))
       (sif (decide (i < (t_Members.length : Int)))
         (sbind (idx t_Members i) fun x1 =>
          spec_l03Compound_l8 b at_ i x1.2.1 t_Kind t_Size t_Signed t_Big t_Names t_Nums t_Members t_Base t_Count) <|
        spec_l03Compound_l8 b at_ i t_Size t_Kind t_Size t_Signed t_Big t_Names t_Nums t_Members t_Base t_Count) (some true)) := seml_eq (f := 187) (m := 0) (l := 3) (by kernel_rfl)
theorem spec_l03Compound_l8_eq (b : ByteArray) (at_ : Int) (i : Int) (to_ : Int) (t_Kind : Int) (t_Size : Int) (t_Signed : Bool) (t_Big : Bool) (t_Names : List ByteArray) (t_Nums : List Int) (t_Members : List (ByteArray × Int × Ty_Type)) (t_Base : List Ty_Type) (t_Count : Int) :
    spec_l03Compound_l8 b at_ i to_ t_Kind t_Size t_Signed t_Big t_Names t_Nums t_Members t_Base t_Count = (
      sif (decide (at_ < to_))
       (sbind (bidx b at_) fun b1 =>
        sif ((b1 != 0)) (some false) <|
        spec_l03Compound_l8 b (wi64 (at_ + 1)) i to_ t_Kind t_Size t_Signed t_Big t_Names t_Nums t_Members t_Base t_Count) <|
      sif (decide (i < (t_Members.length : Int)))
       (sbind (idx t_Members i) fun x1 =>
        sbind (spec_l02Size x1.2.2.f_Kind x1.2.2.f_Size x1.2.2.f_Signed x1.2.2.f_Big x1.2.2.f_Names x1.2.2.f_Nums x1.2.2.f_Members x1.2.2.f_Base x1.2.2.f_Count) fun r2 =>
        sbind (idx t_Members i) fun x3 =>
        sif (le3 0 (wi64 (at_ + r2)) (b.size : Int))
         (sif (le3 0 to_ (wi64 (at_ + r2)))
           (sbind (spec_l03Ok x3.2.2.f_Kind x3.2.2.f_Size x3.2.2.f_Signed x3.2.2.f_Big x3.2.2.f_Names x3.2.2.f_Nums x3.2.2.f_Members x3.2.2.f_Base x3.2.2.f_Count (b.extract to_.toNat ((wi64 (at_ + r2)).toNat))) fun r4 =>
            sif (!r4) (some false) <|
            spec_l03Compound_l3 b (wi64 (at_ + r2)) (wi64 (i + 1)) t_Kind t_Size t_Signed t_Big t_Names t_Nums t_Members t_Base t_Count) (none)) (none)) <|
      spec_l03Compound_l3 b at_ (wi64 (i + 1)) t_Kind t_Size t_Signed t_Big t_Names t_Nums t_Members t_Base t_Count) := seml_eq (f := 187) (m := 0) (l := 8) (by kernel_rfl)
theorem spec_l03Show_eq (t_Kind : Int) (t_Size : Int) (t_Signed : Bool) (t_Big : Bool) (t_Names : List ByteArray) (t_Nums : List Int) (t_Members : List (ByteArray × Int × Ty_Type)) (t_Base : List Ty_Type) (t_Count : Int) (b : ByteArray) :
    spec_l03Show t_Kind t_Size t_Signed t_Big t_Names t_Nums t_Members t_Base t_Count b = (
      sif ((t_Kind == 1))
       (sbind (spec_l03Number t_Kind t_Size t_Signed t_Big t_Names t_Nums t_Members t_Base t_Count b) fun r1 =>
        sbind (spec_l02Dec r1) fun r2 =>
        some r2) <|
      sif ((t_Kind == 6))
       (sbind (spec_l03Number 0 2 false false ([] : List ByteArray) ([] : List Int) ([] : List (ByteArray × Int × Ty_Type)) ([] : List Ty_Type) 0 b) fun r1 =>
        sbind (spec_l02Dec r1) fun r2 =>
        sif (joins (bs [35]) r2) (some ((bs [35]) ++ r2)) (none)) <|
      sif ((t_Kind == 2))
       (sbind (spec_l03Quote b) fun r1 =>
        some r1) <|
      sif ((t_Kind == 3))
       (sbind (idx t_Base 0) fun x1 =>
        sbind (spec_l03Number x1.f_Kind x1.f_Size x1.f_Signed x1.f_Big x1.f_Names x1.f_Nums x1.f_Members x1.f_Base x1.f_Count b) fun r2 =>
        spec_l03Show_l11 r2 0 t_Kind t_Size t_Signed t_Big t_Names t_Nums t_Members t_Base t_Count) <|
      sif ((t_Kind == 4))
       (spec_l03Show_l19 b (bs [123]) 0 t_Kind t_Size t_Signed t_Big t_Names t_Nums t_Members t_Base t_Count) <|
      sbind (idx t_Base 0) fun x1 =>
      sbind (spec_l02Size x1.f_Kind x1.f_Size x1.f_Signed x1.f_Big x1.f_Names x1.f_Nums x1.f_Members x1.f_Base x1.f_Count) fun r2 =>
      spec_l03Show_l29 b (bs [91]) r2 0 t_Kind t_Size t_Signed t_Big t_Names t_Nums t_Members t_Base t_Count) := sem_eq (f := 72) (m := 0) rfl (by kernel_rfl)
theorem spec_l03Show_l11_eq (n : Int) (i : Int) (t_Kind : Int) (t_Size : Int) (t_Signed : Bool) (t_Big : Bool) (t_Names : List ByteArray) (t_Nums : List Int) (t_Members : List (ByteArray × Int × Ty_Type)) (t_Base : List Ty_Type) (t_Count : Int) :
    spec_l03Show_l11 n i t_Kind t_Size t_Signed t_Big t_Names t_Nums t_Members t_Base t_Count = (
      sif (decide (i < (t_Nums.length : Int)))
       (sbind (idx t_Nums i) fun x1 =>
        sif ((x1 == n))
         (sbind (idx t_Names i) fun x2 =>
          some x2) <|
        spec_l03Show_l11 n (wi64 (i + 1)) t_Kind t_Size t_Signed t_Big t_Names t_Nums t_Members t_Base t_Count) (some (bs []))) := seml_eq (f := 72) (m := 0) (l := 11) (by kernel_rfl)
theorem spec_l03Show_l19_eq (b : ByteArray) (out : ByteArray) (i : Int) (t_Kind : Int) (t_Size : Int) (t_Signed : Bool) (t_Big : Bool) (t_Names : List ByteArray) (t_Nums : List Int) (t_Members : List (ByteArray × Int × Ty_Type)) (t_Base : List Ty_Type) (t_Count : Int) :
    spec_l03Show_l19 b out i t_Kind t_Size t_Signed t_Big t_Names t_Nums t_Members t_Base t_Count = (
      sif (decide (i < (t_Members.length : Int)))
       (sbind (idx t_Members i) fun x1 =>
        sif (decide (i > 0))
         (sif (joins out (bs [44]))
           (sif (joins x1.1 (bs [61]))
             (sbind (spec_l02Size x1.2.2.f_Kind x1.2.2.f_Size x1.2.2.f_Signed x1.2.2.f_Big x1.2.2.f_Names x1.2.2.f_Nums x1.2.2.f_Members x1.2.2.f_Base x1.2.2.f_Count) fun r2 =>
              sif (le3 0 (wi64 (x1.2.1 + r2)) (b.size : Int))
               (sif (le3 0 x1.2.1 (wi64 (x1.2.1 + r2)))
                 (sbind (spec_l03Show x1.2.2.f_Kind x1.2.2.f_Size x1.2.2.f_Signed x1.2.2.f_Big x1.2.2.f_Names x1.2.2.f_Nums x1.2.2.f_Members x1.2.2.f_Base x1.2.2.f_Count (b.extract x1.2.1.toNat ((wi64 (x1.2.1 + r2)).toNat))) fun r3 =>
                  sif (joins (x1.1 ++ (bs [61])) r3)
                   (sif (joins (out ++ (bs [44])) ((x1.1 ++ (bs [61])) ++ r3))
                     (spec_l03Show_l19 b ((out ++ (bs [44])) ++ ((x1.1 ++ (bs [61])) ++ r3)) (wi64 (i + 1)) t_Kind t_Size t_Signed t_Big t_Names t_Nums t_Members t_Base t_Count) (none)) (none)) (none)) (none)) (none)) (none)) <|
        sif (joins x1.1 (bs [61]))
         (sbind (spec_l02Size x1.2.2.f_Kind x1.2.2.f_Size x1.2.2.f_Signed x1.2.2.f_Big x1.2.2.f_Names x1.2.2.f_Nums x1.2.2.f_Members x1.2.2.f_Base x1.2.2.f_Count) fun r2 =>
          sif (le3 0 (wi64 (x1.2.1 + r2)) (b.size : Int))
           (sif (le3 0 x1.2.1 (wi64 (x1.2.1 + r2)))
             (sbind (spec_l03Show x1.2.2.f_Kind x1.2.2.f_Size x1.2.2.f_Signed x1.2.2.f_Big x1.2.2.f_Names x1.2.2.f_Nums x1.2.2.f_Members x1.2.2.f_Base x1.2.2.f_Count (b.extract x1.2.1.toNat ((wi64 (x1.2.1 + r2)).toNat))) fun r3 =>
              sif (joins (x1.1 ++ (bs [61])) r3)
               (sif (joins out ((x1.1 ++ (bs [61])) ++ r3))
                 (spec_l03Show_l19 b (out ++ ((x1.1 ++ (bs [61])) ++ r3)) (wi64 (i + 1)) t_Kind t_Size t_Signed t_Big t_Names t_Nums t_Members t_Base t_Count) (none)) (none)) (none)) (none)) (none)) <|
      sif (joins out (bs [125])) (some (out ++ (bs [125]))) (none)) := seml_eq (f := 72) (m := 0) (l := 19) (by kernel_rfl)
theorem spec_l03Show_l29_eq (b : ByteArray) (out : ByteArray) (size : Int) (k : Int) (t_Kind : Int) (t_Size : Int) (t_Signed : Bool) (t_Big : Bool) (t_Names : List ByteArray) (t_Nums : List Int) (t_Members : List (ByteArray × Int × Ty_Type)) (t_Base : List Ty_Type) (t_Count : Int) :
    spec_l03Show_l29 b out size k t_Kind t_Size t_Signed t_Big t_Names t_Nums t_Members t_Base t_Count = (
      sif (decide (k < t_Count))
       (sif (decide (k > 0))
         (sif (joins out (bs [44]))
           (sbind (idx t_Base 0) fun x1 =>
            sif (le3 0 (wi64 ((wi64 (k + 1)) * size)) (b.size : Int))
             (sif (le3 0 (wi64 (k * size)) (wi64 ((wi64 (k + 1)) * size)))
               (sbind (spec_l03Show x1.f_Kind x1.f_Size x1.f_Signed x1.f_Big x1.f_Names x1.f_Nums x1.f_Members x1.f_Base x1.f_Count (b.extract ((wi64 (k * size)).toNat) ((wi64 ((wi64 (k + 1)) * size)).toNat))) fun r2 =>
                sif (joins (out ++ (bs [44])) r2)
                 (spec_l03Show_l29 b ((out ++ (bs [44])) ++ r2) size (wi64 (k + 1)) t_Kind t_Size t_Signed t_Big t_Names t_Nums t_Members t_Base t_Count) (none)) (none)) (none)) (none)) <|
        sbind (idx t_Base 0) fun x1 =>
        sif (le3 0 (wi64 ((wi64 (k + 1)) * size)) (b.size : Int))
         (sif (le3 0 (wi64 (k * size)) (wi64 ((wi64 (k + 1)) * size)))
           (sbind (spec_l03Show x1.f_Kind x1.f_Size x1.f_Signed x1.f_Big x1.f_Names x1.f_Nums x1.f_Members x1.f_Base x1.f_Count (b.extract ((wi64 (k * size)).toNat) ((wi64 ((wi64 (k + 1)) * size)).toNat))) fun r2 =>
            sif (joins out r2)
             (spec_l03Show_l29 b (out ++ r2) size (wi64 (k + 1)) t_Kind t_Size t_Signed t_Big t_Names t_Nums t_Members t_Base t_Count) (none)) (none)) (none)) <|
      sif (joins out (bs [93])) (some (out ++ (bs [93]))) (none)) := seml_eq (f := 72) (m := 0) (l := 29) (by kernel_rfl)
theorem spec_l02Dec_eq (n : Int) :
    spec_l02Dec n = (
      spec_l02Dec_l3 n (bs []) n) := sem_eq (f := 142) (m := 0) rfl (by kernel_rfl)
theorem spec_l02Dec_l3_eq (n : Int) (out : ByteArray) (rest : Int) :
    spec_l02Dec_l3 n out rest = (
      sif (seq out (bs []))
       (sif (decide (Int.tmod rest 10 < 0))
         (sbind (spec_l02Byte (wi64 (48 + (wi64 (0 - (Int.tmod rest 10)))))) fun r1 =>
          sif (joins r1 out) (spec_l02Dec_l3 n (r1 ++ out) (wi64 (Int.tdiv rest 10))) (none)) <|
        sbind (spec_l02Byte (wi64 (48 + (Int.tmod rest 10)))) fun r1 =>
        sif (joins r1 out) (spec_l02Dec_l3 n (r1 ++ out) (wi64 (Int.tdiv rest 10))) (none)) <|
      sif ((rest != 0))
       (sif (decide (Int.tmod rest 10 < 0))
         (sbind (spec_l02Byte (wi64 (48 + (wi64 (0 - (Int.tmod rest 10)))))) fun r1 =>
          sif (joins r1 out) (spec_l02Dec_l3 n (r1 ++ out) (wi64 (Int.tdiv rest 10))) (none)) <|
        sbind (spec_l02Byte (wi64 (48 + (Int.tmod rest 10)))) fun r1 =>
        sif (joins r1 out) (spec_l02Dec_l3 n (r1 ++ out) (wi64 (Int.tdiv rest 10))) (none)) <|
      sif (decide (n < 0)) (sif (joins (bs [45]) out) (some ((bs [45]) ++ out)) (none)) (some out)) := seml_eq (f := 142) (m := 0) (l := 3) (by kernel_rfl)
theorem spec_l02Byte_eq (n : Int) :
    spec_l02Byte n = (
      some (toB [wu8 n])) := sem_eq (f := 224) (m := 0) rfl (by kernel_rfl)
theorem spec_l03Quote_eq (b : ByteArray) :
    spec_l03Quote b = (
      spec_l03Quote_l3 b (bs [34]) 0) := sem_eq (f := 144) (m := 0) rfl (by kernel_rfl)
theorem spec_l03Quote_l3_eq (b : ByteArray) (out : ByteArray) (i : Int) :
    spec_l03Quote_l3 b out i = (
      sif (decide (i < (b.size : Int)))
       (sbind (bidx b i) fun b1 =>
        sif ((b1 != 0))
         (sbind (bidx b i) fun b2 =>
          sif (decide (b2 < 32))
           (sif (le3 0 (wi64 (i + 1)) (b.size : Int))
             (sif (le3 0 i (wi64 (i + 1)))
               (sbind (spec_l01Hex (b.extract i.toNat ((wi64 (i + 1)).toNat))) fun r3 =>
                sif (joins (bs [92]) r3)
                 (sif (joins out ((bs [92]) ++ r3)) (spec_l03Quote_l3 b (out ++ ((bs [92]) ++ r3)) (wi64 (i + 1))) (none)) (none)) (none)) (none)) <|
          sif (decide (b2 > 126))
           (sif (le3 0 (wi64 (i + 1)) (b.size : Int))
             (sif (le3 0 i (wi64 (i + 1)))
               (sbind (spec_l01Hex (b.extract i.toNat ((wi64 (i + 1)).toNat))) fun r3 =>
                sif (joins (bs [92]) r3)
                 (sif (joins out ((bs [92]) ++ r3)) (spec_l03Quote_l3 b (out ++ ((bs [92]) ++ r3)) (wi64 (i + 1))) (none)) (none)) (none)) (none)) <|
          sif ((b2 == 34))
           (sif (le3 0 (wi64 (i + 1)) (b.size : Int))
             (sif (le3 0 i (wi64 (i + 1)))
               (sbind (spec_l01Hex (b.extract i.toNat ((wi64 (i + 1)).toNat))) fun r3 =>
                sif (joins (bs [92]) r3)
                 (sif (joins out ((bs [92]) ++ r3)) (spec_l03Quote_l3 b (out ++ ((bs [92]) ++ r3)) (wi64 (i + 1))) (none)) (none)) (none)) (none)) <|
          sif ((b2 == 92))
           (sif (le3 0 (wi64 (i + 1)) (b.size : Int))
             (sif (le3 0 i (wi64 (i + 1)))
               (sbind (spec_l01Hex (b.extract i.toNat ((wi64 (i + 1)).toNat))) fun r3 =>
                sif (joins (bs [92]) r3)
                 (sif (joins out ((bs [92]) ++ r3)) (spec_l03Quote_l3 b (out ++ ((bs [92]) ++ r3)) (wi64 (i + 1))) (none)) (none)) (none)) (none)) <|
          sif (le3 0 (wi64 (i + 1)) (b.size : Int))
           (sif (le3 0 i (wi64 (i + 1)))
             (sif (joins out (b.extract i.toNat ((wi64 (i + 1)).toNat)))
               (spec_l03Quote_l3 b (out ++ (b.extract i.toNat ((wi64 (i + 1)).toNat))) (wi64 (i + 1))) (none)) (none)) (none)) <|
        sif (joins out (bs [34])) (some (out ++ (bs [34]))) (none)) <|
      sif (joins out (bs [34])) (some (out ++ (bs [34]))) (none)) := seml_eq (f := 144) (m := 0) (l := 3) (by kernel_rfl)
theorem spec_l01Hex_eq (s : ByteArray) :
    spec_l01Hex s = (
      spec_l01Hex_l4 s (bs [48, 49, 50, 51, 52, 53, 54, 55, 56, 57, 97, 98, 99, 100, 101, 102]) 0 ([] : List Int)) := sem_eq (f := 225) (m := 0) rfl (by kernel_rfl)
theorem spec_l01Hex_l4_eq (s : ByteArray) (digits : ByteArray) (i : Int) (out : List Int) :
    spec_l01Hex_l4 s digits i out = (
      sif (decide (i < (s.size : Int)))
       (sbind (bidx s i) fun b1 =>
        sbind (bidx digits (Int.fdiv b1 (2 ^ 4))) fun b2 =>
        sbind (bidx s i) fun b3 =>
        sbind (bidx digits (bits .and .u8 b3 15)) fun b4 =>
        sif (room (out.length + 2) 1) (spec_l01Hex_l4 s digits (wi64 (i + 1)) (out ++ [b2, b4])) (none)) (some (toB out))) := seml_eq (f := 225) (m := 0) (l := 4) (by kernel_rfl)
theorem impl_ElementText_eq (t_Kind : Int) (t_Size : Int) (t_Signed : Bool) (t_Big : Bool) (t_Names : List ByteArray) (t_Nums : List Int) (t_Members : List (ByteArray × Int × Ty_Type)) (t_Base : List Ty_Type) (t_Count : Int) (b : ByteArray) :
    impl_ElementText t_Kind t_Size t_Signed t_Big t_Names t_Nums t_Members t_Base t_Count b = (
      sbind (impl_ValidElement t_Kind t_Size t_Signed t_Big t_Names t_Nums t_Members t_Base t_Count b) fun r1 =>
      sif (!r1) (some (bs [])) <|
      sbind (impl_Type_elementText t_Kind t_Size t_Signed t_Big t_Names t_Nums t_Members t_Base t_Count b) fun r2 =>
      some r2) := sem_eq (f := 30) (m := 0) rfl (by kernel_rfl)
theorem impl_ValidElement_eq (t_Kind : Int) (t_Size : Int) (t_Signed : Bool) (t_Big : Bool) (t_Names : List ByteArray) (t_Nums : List Int) (t_Members : List (ByteArray × Int × Ty_Type)) (t_Base : List Ty_Type) (t_Count : Int) (b : ByteArray) :
    impl_ValidElement t_Kind t_Size t_Signed t_Big t_Names t_Nums t_Members t_Base t_Count b = (
      sbind (impl_ValidType t_Kind t_Size t_Signed t_Big t_Names t_Nums t_Members t_Base t_Count) fun r1 =>
      sif (r1)
       (sbind (impl_Type_isElement t_Kind t_Size t_Signed t_Big t_Names t_Nums t_Members t_Base t_Count b) fun r2 =>
        some r2) (some false)) := sem_eq (f := 76) (m := 0) rfl (by kernel_rfl)
theorem impl_ValidType_eq (t_Kind : Int) (t_Size : Int) (t_Signed : Bool) (t_Big : Bool) (t_Names : List ByteArray) (t_Nums : List Int) (t_Members : List (ByteArray × Int × Ty_Type)) (t_Base : List Ty_Type) (t_Count : Int) :
    impl_ValidType t_Kind t_Size t_Signed t_Big t_Names t_Nums t_Members t_Base t_Count = (
      sbind (impl_Type_valid t_Kind t_Size t_Signed t_Big t_Names t_Nums t_Members t_Base t_Count 3) fun r1 =>
      some r1) := sem_eq (f := 147) (m := 0) rfl (by kernel_rfl)
theorem impl_Type_valid_eq (t_Kind : Int) (t_Size : Int) (t_Signed : Bool) (t_Big : Bool) (t_Names : List ByteArray) (t_Nums : List Int) (t_Members : List (ByteArray × Int × Ty_Type)) (t_Base : List Ty_Type) (t_Count : Int) (depth : Int) :
    impl_Type_valid t_Kind t_Size t_Signed t_Big t_Names t_Nums t_Members t_Base t_Count depth = (
      sif (decide (depth < 1)) (some false) <|
      sbind (impl_Type_only t_Kind t_Size t_Signed t_Big t_Names t_Nums t_Members t_Base t_Count) fun r1 =>
      sbind (impl_SameType t_Kind t_Size t_Signed t_Big t_Names t_Nums t_Members t_Base t_Count r1.1 r1.2.1 r1.2.2.1 r1.2.2.2.1 r1.2.2.2.2.1 r1.2.2.2.2.2.1 r1.2.2.2.2.2.2.1 r1.2.2.2.2.2.2.2.1 r1.2.2.2.2.2.2.2.2) fun r2 =>
      sif (!r2) (some false) <|
      sif ((t_Kind == 1))
       (sbind (impl_Type_intOk t_Kind t_Size t_Signed t_Big t_Names t_Nums t_Members t_Base t_Count) fun r3 =>
        some r3) <|
      sif ((t_Kind == 2))
       (sbind (impl_within t_Size 1 16) fun r3 =>
        some r3) <|
      sif ((t_Kind == 3))
       (sbind (impl_Type_enumOk t_Kind t_Size t_Signed t_Big t_Names t_Nums t_Members t_Base t_Count) fun r3 =>
        some r3) <|
      sif ((t_Kind == 4))
       (sbind (impl_Type_compoundOk t_Kind t_Size t_Signed t_Big t_Names t_Nums t_Members t_Base t_Count (wi64 (depth - 1))) fun r3 =>
        some r3) <|
      sif ((t_Kind == 5))
       (sbind (impl_within t_Count 1 4) fun r3 =>
        sif (r3)
         (sif (((t_Base.length : Int) == 1))
           (sbind (idx t_Base 0) fun x4 =>
            sbind (impl_Type_valid x4.f_Kind x4.f_Size x4.f_Signed x4.f_Big x4.f_Names x4.f_Nums x4.f_Members x4.f_Base x4.f_Count (wi64 (depth - 1))) fun r5 =>
            sif (r5)
             (sbind (impl_Type_size t_Kind t_Size t_Signed t_Big t_Names t_Nums t_Members t_Base t_Count) fun r6 =>
              some (decide (r6 ≤ 24))) (some false)) (some false)) (some false)) <|
      sif ((t_Kind == 6)) (some (t_Size == 2)) (some false)) := sem_eq (f := 226) (m := 0) rfl (by kernel_rfl)
theorem impl_Type_only_eq (t_Kind : Int) (t_Size : Int) (t_Signed : Bool) (t_Big : Bool) (t_Names : List ByteArray) (t_Nums : List Int) (t_Members : List (ByteArray × Int × Ty_Type)) (t_Base : List Ty_Type) (t_Count : Int) :
    impl_Type_only t_Kind t_Size t_Signed t_Big t_Names t_Nums t_Members t_Base t_Count = (
      sif ((t_Kind == 1))
       (some (t_Kind, t_Size, t_Signed, t_Big, ([] : List ByteArray), ([] : List Int), ([] : List (ByteArray × Int × Ty_Type)), ([] : List Ty_Type), 0)) <|
      sif ((t_Kind == 2))
       (sif ((t_Kind == 2))
         (some (t_Kind, t_Size, false, false, ([] : List ByteArray), ([] : List Int), ([] : List (ByteArray × Int × Ty_Type)), ([] : List Ty_Type), 0)) <|
        sif ((t_Kind == 3))
         (some (t_Kind, 0, false, false, t_Names, t_Nums, ([] : List (ByteArray × Int × Ty_Type)), t_Base, 0)) <|
        sif ((t_Kind == 4))
         (some (t_Kind, t_Size, false, false, ([] : List ByteArray), ([] : List Int), t_Members, ([] : List Ty_Type), 0)) <|
        sif ((t_Kind == 5))
         (some (t_Kind, 0, false, false, ([] : List ByteArray), ([] : List Int), ([] : List (ByteArray × Int × Ty_Type)), t_Base, t_Count)) <|
        some (t_Kind, 0, false, false, ([] : List ByteArray), ([] : List Int), ([] : List (ByteArray × Int × Ty_Type)), ([] : List Ty_Type), 0)) <|
      sif ((t_Kind == 6))
       (some (t_Kind, t_Size, false, false, ([] : List ByteArray), ([] : List Int), ([] : List (ByteArray × Int × Ty_Type)), ([] : List Ty_Type), 0)) <|
      sif ((t_Kind == 3))
       (some (t_Kind, 0, false, false, t_Names, t_Nums, ([] : List (ByteArray × Int × Ty_Type)), t_Base, 0)) <|
      sif ((t_Kind == 4))
       (some (t_Kind, t_Size, false, false, ([] : List ByteArray), ([] : List Int), t_Members, ([] : List Ty_Type), 0)) <|
      sif ((t_Kind == 5))
       (some (t_Kind, 0, false, false, ([] : List ByteArray), ([] : List Int), ([] : List (ByteArray × Int × Ty_Type)), t_Base, t_Count)) <|
      some (t_Kind, 0, false, false, ([] : List ByteArray), ([] : List Int), ([] : List (ByteArray × Int × Ty_Type)), ([] : List Ty_Type), 0)) := sem_eq (f := 277) (m := 0) rfl (by kernel_rfl)
theorem impl_SameType_eq (a_Kind : Int) (a_Size : Int) (a_Signed : Bool) (a_Big : Bool) (a_Names : List ByteArray) (a_Nums : List Int) (a_Members : List (ByteArray × Int × Ty_Type)) (a_Base : List Ty_Type) (a_Count : Int) (b_Kind : Int) (b_Size : Int) (b_Signed : Bool) (b_Big : Bool) (b_Names : List ByteArray) (b_Nums : List Int) (b_Members : List (ByteArray × Int × Ty_Type)) (b_Base : List Ty_Type) (b_Count : Int) :
    impl_SameType a_Kind a_Size a_Signed a_Big a_Names a_Nums a_Members a_Base a_Count b_Kind b_Size b_Signed b_Big b_Names b_Nums b_Members b_Base b_Count = (
      sif ((a_Kind == b_Kind))
       (sif ((a_Size == b_Size))
         (sif ((a_Signed == b_Signed))
           (sif ((a_Big == b_Big))
             (sif ((a_Count == b_Count))
               (sbind (slices_Equal_sstring_string a_Names b_Names) fun r1 =>
                sif (r1)
                 (sbind (slices_Equal_sint64_int64 a_Nums b_Nums) fun r2 =>
                  sif (r2)
                   (sbind (slices_EqualFunc_simpl_Member_simpl_Member_impl_Member_impl_Member_dd_sameMember a_Members b_Members) fun r3 =>
                    sif (r3)
                     (sbind (slices_EqualFunc_simpl_Type_simpl_Type_impl_Type_impl_Type_dd_SameType a_Base b_Base) fun r4 =>
                      some r4) (some false)) (some false)) (some false)) (some false)) (some false)) (some false)) (some false)) (some false)) := sem_eq (f := 213) (m := 0) rfl (by kernel_rfl)
theorem slices_Equal_sstring_string_eq (s1 : List ByteArray) (s2 : List ByteArray) :
    slices_Equal_sstring_string s1 s2 = (
      sif (((s1.length : Int) != (s2.length : Int))) (some false) <|
      slices_Equal_sstring_string_l4 s1 s2 (s1.length : Int) 0) := sem_eq (f := 273) (m := 0) rfl (by kernel_rfl)
theorem slices_Equal_sstring_string_l4_eq (s1 : List ByteArray) (s2 : List ByteArray) (t12 : Int) (t13 : Int) :
    slices_Equal_sstring_string_l4 s1 s2 t12 t13 = (
      sif (decide (t13 < t12))
       (sbind (idx s1 t13) fun x1 =>
        sbind (idx s2 t13) fun x2 =>
        sif (!seq x1 x2) (some false) <|
        slices_Equal_sstring_string_l4 s1 s2 t12 (wi64 (t13 + 1))) (some true)) := seml_eq (f := 273) (m := 0) (l := 4) (by kernel_rfl)
theorem slices_Equal_sint64_int64_eq (s1 : List Int) (s2 : List Int) :
    slices_Equal_sint64_int64 s1 s2 = (
      sif (((s1.length : Int) != (s2.length : Int))) (some false) <|
      slices_Equal_sint64_int64_l4 s1 s2 (s1.length : Int) 0) := sem_eq (f := 135) (m := 0) rfl (by kernel_rfl)
theorem slices_Equal_sint64_int64_l4_eq (s1 : List Int) (s2 : List Int) (t12 : Int) (t13 : Int) :
    slices_Equal_sint64_int64_l4 s1 s2 t12 t13 = (
      sif (decide (t13 < t12))
       (sbind (idx s1 t13) fun x1 =>
        sbind (idx s2 t13) fun x2 =>
        sif ((x1 != x2)) (some false) <|
        slices_Equal_sint64_int64_l4 s1 s2 t12 (wi64 (t13 + 1))) (some true)) := seml_eq (f := 135) (m := 0) (l := 4) (by kernel_rfl)
theorem slices_EqualFunc_simpl_Member_simpl_Member_impl_Member_impl_Member_dd_sameMember_eq (s1 : List (ByteArray × Int × Ty_Type)) (s2 : List (ByteArray × Int × Ty_Type)) :
    slices_EqualFunc_simpl_Member_simpl_Member_impl_Member_impl_Member_dd_sameMember s1 s2 = (
      sif (((s1.length : Int) != (s2.length : Int))) (some false) <|
      slices_EqualFunc_simpl_Member_simpl_Member_impl_Member_impl_Member_dd_sameMember_l4 s2 s1 (s1.length : Int) 0) := sem_eq (f := 274) (m := 0) rfl (by kernel_rfl)
theorem slices_EqualFunc_simpl_Member_simpl_Member_impl_Member_impl_Member_dd_sameMember_l4_eq (s2 : List (ByteArray × Int × Ty_Type)) (t15 : List (ByteArray × Int × Ty_Type)) (t16 : Int) (t17 : Int) :
    slices_EqualFunc_simpl_Member_simpl_Member_impl_Member_impl_Member_dd_sameMember_l4 s2 t15 t16 t17 = (
      sif (decide (t17 < t16))
       (sbind (idx t15 t17) fun x1 =>
        sbind (idx s2 t17) fun x2 =>
        sbind (impl_sameMember x1.1 x1.2.1 x1.2.2.f_Kind x1.2.2.f_Size x1.2.2.f_Signed x1.2.2.f_Big x1.2.2.f_Names x1.2.2.f_Nums x1.2.2.f_Members x1.2.2.f_Base x1.2.2.f_Count x2.1 x2.2.1 x2.2.2.f_Kind x2.2.2.f_Size x2.2.2.f_Signed x2.2.2.f_Big x2.2.2.f_Names x2.2.2.f_Nums x2.2.2.f_Members x2.2.2.f_Base x2.2.2.f_Count) fun r3 =>
        sif (!r3) (some false) <|
        slices_EqualFunc_simpl_Member_simpl_Member_impl_Member_impl_Member_dd_sameMember_l4 s2 t15 t16 (wi64 (t17 + 1))) (some true)) := seml_eq (f := 274) (m := 0) (l := 4) (by kernel_rfl)
theorem impl_sameMember_eq (a_Name : ByteArray) (a_Offset : Int) (a_Type_Kind : Int) (a_Type_Size : Int) (a_Type_Signed : Bool) (a_Type_Big : Bool) (a_Type_Names : List ByteArray) (a_Type_Nums : List Int) (a_Type_Members : List (ByteArray × Int × Ty_Type)) (a_Type_Base : List Ty_Type) (a_Type_Count : Int) (b_Name : ByteArray) (b_Offset : Int) (b_Type_Kind : Int) (b_Type_Size : Int) (b_Type_Signed : Bool) (b_Type_Big : Bool) (b_Type_Names : List ByteArray) (b_Type_Nums : List Int) (b_Type_Members : List (ByteArray × Int × Ty_Type)) (b_Type_Base : List Ty_Type) (b_Type_Count : Int) :
    impl_sameMember a_Name a_Offset a_Type_Kind a_Type_Size a_Type_Signed a_Type_Big a_Type_Names a_Type_Nums a_Type_Members a_Type_Base a_Type_Count b_Name b_Offset b_Type_Kind b_Type_Size b_Type_Signed b_Type_Big b_Type_Names b_Type_Nums b_Type_Members b_Type_Base b_Type_Count = (
      sif (seq a_Name b_Name)
       (sif ((a_Offset == b_Offset))
         (sbind (impl_SameType a_Type_Kind a_Type_Size a_Type_Signed a_Type_Big a_Type_Names a_Type_Nums a_Type_Members a_Type_Base a_Type_Count b_Type_Kind b_Type_Size b_Type_Signed b_Type_Big b_Type_Names b_Type_Nums b_Type_Members b_Type_Base b_Type_Count) fun r1 =>
          some r1) (some false)) (some false)) := sem_eq (f := 275) (m := 0) rfl (by kernel_rfl)
theorem slices_EqualFunc_simpl_Type_simpl_Type_impl_Type_impl_Type_dd_SameType_eq (s1 : List Ty_Type) (s2 : List Ty_Type) :
    slices_EqualFunc_simpl_Type_simpl_Type_impl_Type_impl_Type_dd_SameType s1 s2 = (
      sif (((s1.length : Int) != (s2.length : Int))) (some false) <|
      slices_EqualFunc_simpl_Type_simpl_Type_impl_Type_impl_Type_dd_SameType_l4 s2 s1 (s1.length : Int) 0) := sem_eq (f := 276) (m := 0) rfl (by kernel_rfl)
theorem slices_EqualFunc_simpl_Type_simpl_Type_impl_Type_impl_Type_dd_SameType_l4_eq (s2 : List Ty_Type) (t15 : List Ty_Type) (t16 : Int) (t17 : Int) :
    slices_EqualFunc_simpl_Type_simpl_Type_impl_Type_impl_Type_dd_SameType_l4 s2 t15 t16 t17 = (
      sif (decide (t17 < t16))
       (sbind (idx t15 t17) fun x1 =>
        sbind (idx s2 t17) fun x2 =>
        sbind (impl_SameType x1.f_Kind x1.f_Size x1.f_Signed x1.f_Big x1.f_Names x1.f_Nums x1.f_Members x1.f_Base x1.f_Count x2.f_Kind x2.f_Size x2.f_Signed x2.f_Big x2.f_Names x2.f_Nums x2.f_Members x2.f_Base x2.f_Count) fun r3 =>
        sif (!r3) (some false) <|
        slices_EqualFunc_simpl_Type_simpl_Type_impl_Type_impl_Type_dd_SameType_l4 s2 t15 t16 (wi64 (t17 + 1))) (some true)) := seml_eq (f := 276) (m := 0) (l := 4) (by kernel_rfl)
theorem impl_Type_intOk_eq (t_Kind : Int) (t_Size : Int) (t_Signed : Bool) (t_Big : Bool) (t_Names : List ByteArray) (t_Nums : List Int) (t_Members : List (ByteArray × Int × Ty_Type)) (t_Base : List Ty_Type) (t_Count : Int) :
    impl_Type_intOk t_Kind t_Size t_Signed t_Big t_Names t_Nums t_Members t_Base t_Count = (
      sbind (slices_Contains_sint64_int64 ([1, 2, 4, 8] : List Int) t_Size) fun r1 =>
      sif (r1)
       (sif (t_Signed) (sif (t_Big) (some (!(t_Size == 1))) (some true)) <|
        sif (decide (t_Size < 8)) (sif (t_Big) (some (!(t_Size == 1))) (some true)) (some false)) (some false)) := sem_eq (f := 278) (m := 0) rfl (by kernel_rfl)
theorem slices_Contains_sint64_int64_eq (s : List Int) (v : Int) :
    slices_Contains_sint64_int64 s v = (
      sbind (slices_Index_sint64_int64 s v) fun r1 =>
      some (decide (r1 ≥ 0))) := sem_eq (f := 50) (m := 0) rfl (by kernel_rfl)
theorem slices_Index_sint64_int64_eq (s : List Int) (v : Int) :
    slices_Index_sint64_int64 s v = (
      slices_Index_sint64_int64_l2 s v (s.length : Int) 0) := sem_eq (f := 108) (m := 0) rfl (by kernel_rfl)
theorem slices_Index_sint64_int64_l2_eq (s : List Int) (v : Int) (t7 : Int) (t8 : Int) :
    slices_Index_sint64_int64_l2 s v t7 t8 = (
      sif (decide (t8 < t7))
       (sbind (idx s t8) fun x1 =>
        sif ((v == x1)) (some t8) <|
        slices_Index_sint64_int64_l2 s v t7 (wi64 (t8 + 1))) (some (-1))) := seml_eq (f := 108) (m := 0) (l := 2) (by kernel_rfl)
theorem impl_within_eq (n : Int) (low : Int) (high : Int) :
    impl_within n low high = (
      sif (decide (n ≥ low)) (some (decide (n ≤ high))) (some false)) := sem_eq (f := 106) (m := 0) rfl (by kernel_rfl)
theorem impl_Type_enumOk_eq (t_Kind : Int) (t_Size : Int) (t_Signed : Bool) (t_Big : Bool) (t_Names : List ByteArray) (t_Nums : List Int) (t_Members : List (ByteArray × Int × Ty_Type)) (t_Base : List Ty_Type) (t_Count : Int) :
    impl_Type_enumOk t_Kind t_Size t_Signed t_Big t_Names t_Nums t_Members t_Base t_Count = (
      sif (((t_Base.length : Int) != 1)) (some false) <|
      sbind (idx t_Base 0) fun x1 =>
      sif ((x1.f_Kind != 1)) (some false) <|
      sbind (idx t_Base 0) fun x2 =>
      sbind (impl_Type_valid x2.f_Kind x2.f_Size x2.f_Signed x2.f_Big x2.f_Names x2.f_Nums x2.f_Members x2.f_Base x2.f_Count 1) fun r3 =>
      sif (!r3) (some false) <|
      sbind (idx t_Base 0) fun x4 =>
      sbind (impl_Type_intRange x4.f_Kind x4.f_Size x4.f_Signed x4.f_Big x4.f_Names x4.f_Nums x4.f_Members x4.f_Base x4.f_Count) fun r5 =>
      impl_Type_enumOk_l5 r5.1 r5.2 t_Nums (t_Nums.length : Int) 0 t_Kind t_Size t_Signed t_Big t_Names t_Nums t_Members t_Base t_Count) := sem_eq (f := 279) (m := 0) rfl (by kernel_rfl)
theorem impl_Type_enumOk_l5_eq (low : Int) (high : Int) (t36 : List Int) (t37 : Int) (t38 : Int) (t_Kind : Int) (t_Size : Int) (t_Signed : Bool) (t_Big : Bool) (t_Names : List ByteArray) (t_Nums : List Int) (t_Members : List (ByteArray × Int × Ty_Type)) (t_Base : List Ty_Type) (t_Count : Int) :
    impl_Type_enumOk_l5 low high t36 t37 t38 t_Kind t_Size t_Signed t_Big t_Names t_Nums t_Members t_Base t_Count = (
      sif (decide (t38 < t37))
       (sbind (idx t36 t38) fun x1 =>
        sbind (impl_within x1 low high) fun r2 =>
        sif (!r2) (some false) <|
        sif (decide (t38 > 0))
         (sbind (idx t_Nums (wi64 (t38 - 1))) fun x3 =>
          sif (decide (x1 ≤ x3)) (some false) <|
          impl_Type_enumOk_l5 low high t36 t37 (wi64 (t38 + 1)) t_Kind t_Size t_Signed t_Big t_Names t_Nums t_Members t_Base t_Count) <|
        impl_Type_enumOk_l5 low high t36 t37 (wi64 (t38 + 1)) t_Kind t_Size t_Signed t_Big t_Names t_Nums t_Members t_Base t_Count) <|
      sbind (impl_within (t_Nums.length : Int) 1 6) fun r1 =>
      sif (r1)
       (sif (((t_Names.length : Int) == (t_Nums.length : Int)))
         (sbind (impl_differentNames t_Names) fun r2 =>
          some r2) (some false)) (some false)) := seml_eq (f := 279) (m := 0) (l := 5) (by kernel_rfl)
theorem impl_Type_intRange_eq (t_Kind : Int) (t_Size : Int) (t_Signed : Bool) (t_Big : Bool) (t_Names : List ByteArray) (t_Nums : List Int) (t_Members : List (ByteArray × Int × Ty_Type)) (t_Base : List Ty_Type) (t_Count : Int) :
    impl_Type_intRange t_Kind t_Size t_Signed t_Big t_Names t_Nums t_Members t_Base t_Count = (
      sif (t_Signed)
       (sif (decide (wi64 ((wi64 (8 * t_Size)) - 1) < 0)) (none) <|
        sif (decide (wi64 ((wi64 (8 * t_Size)) - 1) < 0)) (none) <|
        some (wi64 ((-1) * 2 ^ (min (wi64 ((wi64 (8 * t_Size)) - 1)).toNat 64)), wi64 ((wi64 (1 * 2 ^ (min (wi64 ((wi64 (8 * t_Size)) - 1)).toNat 64))) - 1))) <|
      sif (decide (wi64 (8 * t_Size) < 0)) (none) <|
      some (0, wi64 ((wi64 (1 * 2 ^ (min (wi64 (8 * t_Size)).toNat 64))) - 1))) := sem_eq (f := 298) (m := 0) rfl (by kernel_rfl)
theorem impl_differentNames_eq (names : List ByteArray) :
    impl_differentNames names = (
      impl_differentNames_l2 names names (names.length : Int) 0) := sem_eq (f := 299) (m := 0) rfl (by kernel_rfl)
theorem impl_differentNames_l2_eq (names : List ByteArray) (t5 : List ByteArray) (t6 : Int) (t7 : Int) :
    impl_differentNames_l2 names t5 t6 t7 = (
      sif (decide (t7 < t6))
       (sbind (idx t5 t7) fun x1 =>
        sbind (impl_IsName x1) fun r2 =>
        sif (!r2) (some false) <|
        sif (le3 0 t7 (names.length : Int))
         (sbind (slices_Contains_sstring_string ((names.take t7.toNat).drop 0) x1) fun r3 =>
          sif (r3) (some false) <|
          impl_differentNames_l2 names t5 t6 (wi64 (t7 + 1))) (none)) (some true)) := seml_eq (f := 299) (m := 0) (l := 2) (by kernel_rfl)
theorem impl_IsName_eq (s : ByteArray) :
    impl_IsName s = (
      impl_IsName_l2 s (s.size : Int) 0) := sem_eq (f := 130) (m := 0) rfl (by kernel_rfl)
theorem impl_IsName_l2_eq (s : ByteArray) (t7 : Int) (t8 : Int) :
    impl_IsName_l2 s t7 t8 = (
      sif (decide (t8 < t7))
       (sbind (bidx s t8) fun b1 =>
        sif (decide (b1 ≥ 65))
         (sif (decide (b1 ≤ 90)) (impl_IsName_l6 s t8 b1 true t7 t8) <|
          sif (decide (b1 ≥ 97)) (impl_IsName_l6 s t8 b1 (decide (b1 ≤ 122)) t7 t8) (impl_IsName_l6 s t8 b1 false t7 t8)) <|
        sif (decide (b1 ≥ 97)) (impl_IsName_l6 s t8 b1 (decide (b1 ≤ 122)) t7 t8) (impl_IsName_l6 s t8 b1 false t7 t8)) <|
      sif (decide ((s.size : Int) ≥ 1)) (some (decide ((s.size : Int) ≤ 12))) (some false)) := seml_eq (f := 130) (m := 0) (l := 2) (by kernel_rfl)
theorem impl_IsName_l6_eq (s : ByteArray) (i : Int) (c : Int) (letter : Bool) (t7 : Int) (t8 : Int) :
    impl_IsName_l6 s i c letter t7 t8 = (
      sif (!letter)
       (sif ((i == 0)) (some false) <|
        sif (decide (c < 48)) (sif ((c != 95)) (some false) (impl_IsName_l2 s t7 (wi64 (t8 + 1)))) <|
        sif (decide (c > 57)) (sif ((c != 95)) (some false) (impl_IsName_l2 s t7 (wi64 (t8 + 1)))) (impl_IsName_l2 s t7 (wi64 (t8 + 1)))) (impl_IsName_l2 s t7 (wi64 (t8 + 1)))) := seml_eq (f := 130) (m := 0) (l := 6) (by kernel_rfl)
theorem slices_Contains_sstring_string_eq (s : List ByteArray) (v : ByteArray) :
    slices_Contains_sstring_string s v = (
      sbind (slices_Index_sstring_string s v) fun r1 =>
      some (decide (r1 ≥ 0))) := sem_eq (f := 112) (m := 0) rfl (by kernel_rfl)
theorem slices_Index_sstring_string_eq (s : List ByteArray) (v : ByteArray) :
    slices_Index_sstring_string s v = (
      slices_Index_sstring_string_l2 s v (s.length : Int) 0) := sem_eq (f := 192) (m := 0) rfl (by kernel_rfl)
theorem slices_Index_sstring_string_l2_eq (s : List ByteArray) (v : ByteArray) (t7 : Int) (t8 : Int) :
    slices_Index_sstring_string_l2 s v t7 t8 = (
      sif (decide (t8 < t7))
       (sbind (idx s t8) fun x1 =>
        sif (seq v x1) (some t8) <|
        slices_Index_sstring_string_l2 s v t7 (wi64 (t8 + 1))) (some (-1))) := seml_eq (f := 192) (m := 0) (l := 2) (by kernel_rfl)
theorem impl_Type_compoundOk_eq (t_Kind : Int) (t_Size : Int) (t_Signed : Bool) (t_Big : Bool) (t_Names : List ByteArray) (t_Nums : List Int) (t_Members : List (ByteArray × Int × Ty_Type)) (t_Base : List Ty_Type) (t_Count : Int) (depth : Int) :
    impl_Type_compoundOk t_Kind t_Size t_Signed t_Big t_Names t_Nums t_Members t_Base t_Count depth = (
      sbind (impl_within t_Size 1 24) fun r1 =>
      sif (!r1) (some false) <|
      sbind (impl_within (t_Members.length : Int) 1 4) fun r2 =>
      sif (!r2) (some false) <|
      impl_Type_compoundOk_l6 depth 0 t_Members (t_Members.length : Int) 0 t_Kind t_Size t_Signed t_Big t_Names t_Nums t_Members t_Base t_Count ([] : List ByteArray)) := sem_eq (f := 280) (m := 0) rfl (by kernel_rfl)
theorem impl_Type_compoundOk_l6_eq (depth : Int) (end_ : Int) (t21 : List (ByteArray × Int × Ty_Type)) (t22 : Int) (t23 : Int) (t_Kind : Int) (t_Size : Int) (t_Signed : Bool) (t_Big : Bool) (t_Names : List ByteArray) (t_Nums : List Int) (t_Members : List (ByteArray × Int × Ty_Type)) (t_Base : List Ty_Type) (t_Count : Int) (names : List ByteArray) :
    impl_Type_compoundOk_l6 depth end_ t21 t22 t23 t_Kind t_Size t_Signed t_Big t_Names t_Nums t_Members t_Base t_Count names = (
      sif (decide (t23 < t22))
       (sbind (idx t21 t23) fun x1 =>
        sbind (impl_Type_valid x1.2.2.f_Kind x1.2.2.f_Size x1.2.2.f_Signed x1.2.2.f_Big x1.2.2.f_Names x1.2.2.f_Nums x1.2.2.f_Members x1.2.2.f_Base x1.2.2.f_Count depth) fun r2 =>
        sif (!r2) (some false) <|
        sif (decide (x1.2.1 < end_)) (some false) <|
        sif (decide (x1.2.1 > 24)) (some false) <|
        sbind (impl_Type_size x1.2.2.f_Kind x1.2.2.f_Size x1.2.2.f_Signed x1.2.2.f_Big x1.2.2.f_Names x1.2.2.f_Nums x1.2.2.f_Members x1.2.2.f_Base x1.2.2.f_Count) fun r3 =>
        sif (room (names.length + 1) 16)
         (impl_Type_compoundOk_l6 depth (wi64 (x1.2.1 + r3)) t21 t22 (wi64 (t23 + 1)) t_Kind t_Size t_Signed t_Big t_Names t_Nums t_Members t_Base t_Count (names ++ [x1.1])) (none)) <|
      sif (decide (end_ ≤ t_Size))
       (sbind (impl_differentNames names) fun r1 =>
        some r1) (some false)) := seml_eq (f := 280) (m := 0) (l := 6) (by kernel_rfl)
theorem impl_Type_size_eq (t_Kind : Int) (t_Size : Int) (t_Signed : Bool) (t_Big : Bool) (t_Names : List ByteArray) (t_Nums : List Int) (t_Members : List (ByteArray × Int × Ty_Type)) (t_Base : List Ty_Type) (t_Count : Int) :
    impl_Type_size t_Kind t_Size t_Signed t_Big t_Names t_Nums t_Members t_Base t_Count = (
      sif ((t_Kind == 3))
       (sbind (idx t_Base 0) fun x1 =>
        sbind (impl_Type_size x1.f_Kind x1.f_Size x1.f_Signed x1.f_Big x1.f_Names x1.f_Nums x1.f_Members x1.f_Base x1.f_Count) fun r2 =>
        some r2) <|
      sif ((t_Kind == 5))
       (sbind (idx t_Base 0) fun x1 =>
        sbind (impl_Type_size x1.f_Kind x1.f_Size x1.f_Signed x1.f_Big x1.f_Names x1.f_Nums x1.f_Members x1.f_Base x1.f_Count) fun r2 =>
        some (wi64 (t_Count * r2))) (some t_Size)) := sem_eq (f := 169) (m := 0) rfl (by kernel_rfl)
theorem impl_Type_isElement_eq (t_Kind : Int) (t_Size : Int) (t_Signed : Bool) (t_Big : Bool) (t_Names : List ByteArray) (t_Nums : List Int) (t_Members : List (ByteArray × Int × Ty_Type)) (t_Base : List Ty_Type) (t_Count : Int) (b : ByteArray) :
    impl_Type_isElement t_Kind t_Size t_Signed t_Big t_Names t_Nums t_Members t_Base t_Count b = (
      sbind (impl_Type_size t_Kind t_Size t_Signed t_Big t_Names t_Nums t_Members t_Base t_Count) fun r1 =>
      sif (((b.size : Int) != r1)) (some false) <|
      sif ((t_Kind == 2))
       (sbind (impl_trimmed b) fun r2 =>
        sbind (strings_Contains r2 (bs [0])) fun r3 =>
        some !r3) <|
      sif ((t_Kind == 3))
       (sbind (impl_Type_number t_Kind t_Size t_Signed t_Big t_Names t_Nums t_Members t_Base t_Count b) fun r2 =>
        sbind (slices_Contains_sint64_int64 t_Nums r2) fun r3 =>
        some r3) <|
      sif ((t_Kind == 4))
       (sbind (impl_Type_gapsOk t_Kind t_Size t_Signed t_Big t_Names t_Nums t_Members t_Base t_Count b) fun r2 =>
        sif (!r2) (some false) <|
        sbind (impl_Type_parts t_Kind t_Size t_Signed t_Big t_Names t_Nums t_Members t_Base t_Count b) fun r3 =>
        sbind (slices_ContainsFunc_simpl_part_impl_part_d_Type_isElement_1 r3) fun r4 =>
        some !r4) <|
      sbind (impl_Type_parts t_Kind t_Size t_Signed t_Big t_Names t_Nums t_Members t_Base t_Count b) fun r2 =>
      sbind (slices_ContainsFunc_simpl_part_impl_part_d_Type_isElement_1 r2) fun r3 =>
      some !r3) := sem_eq (f := 90) (m := 0) rfl (by kernel_rfl)
theorem impl_trimmed_eq (b : ByteArray) :
    impl_trimmed b = (
      sbind (strings_TrimRight b (bs [0])) fun r1 =>
      some r1) := sem_eq (f := 153) (m := 0) rfl (by kernel_rfl)
theorem strings_TrimRight_eq (x0 : ByteArray) (x1 : ByteArray) : strings_TrimRight x0 x1 = trimR1 x0 x1 := ext_eq (E := E) (f := 234) (m := 0) (g := fun (d : ByteArray × ByteArray) => (trimR1 (d.1) (d.2) : Option (ByteArray))) (by kernel_rfl) (x0, x1)
theorem strings_Contains_eq (x0 : ByteArray) (x1 : ByteArray) : strings_Contains x0 x1 = contains1 x0 x1 := ext_eq (E := E) (f := 170) (m := 0) (g := fun (d : ByteArray × ByteArray) => (contains1 (d.1) (d.2) : Option (Bool))) (by kernel_rfl) (x0, x1)
theorem impl_Type_number_eq (t_Kind : Int) (t_Size : Int) (t_Signed : Bool) (t_Big : Bool) (t_Names : List ByteArray) (t_Nums : List Int) (t_Members : List (ByteArray × Int × Ty_Type)) (t_Base : List Ty_Type) (t_Count : Int) (b : ByteArray) :
    impl_Type_number t_Kind t_Size t_Signed t_Big t_Names t_Nums t_Members t_Base t_Count b = (
      sif ((t_Kind == 3))
       (sbind (idx t_Base 0) fun x1 =>
        sbind (impl_Type_number x1.f_Kind x1.f_Size x1.f_Signed x1.f_Big x1.f_Names x1.f_Nums x1.f_Members x1.f_Base x1.f_Count b) fun r2 =>
        some r2) <|
      sif (t_Big)
       (sbind (impl_ReverseBytes b) fun r1 =>
        sif (t_Signed)
         (sbind (impl_signed r1) fun r2 =>
          some r2) <|
        sbind (impl_getBits r1) fun r2 =>
        some (wi64 r2)) <|
      sif (t_Signed)
       (sbind (impl_signed b) fun r1 =>
        some r1) <|
      sbind (impl_getBits b) fun r1 =>
      some (wi64 r1)) := sem_eq (f := 151) (m := 0) rfl (by kernel_rfl)
theorem impl_ReverseBytes_eq (s : ByteArray) :
    impl_ReverseBytes s = (
      sbind (slices_Reverse_sbyte_byte_v (ofB s)) fun r1 =>
      some (toB r1)) := sem_eq (f := 229) (m := 0) rfl (by kernel_rfl)
theorem slices_Reverse_sbyte_byte_v_eq (s : List Int) :
    slices_Reverse_sbyte_byte_v s = (
      slices_Reverse_sbyte_byte_v_l1 0 (wi64 ((s.length : Int) - 1)) s) := sem_eq (f := 283) (m := 0) rfl (by kernel_rfl)
theorem slices_Reverse_sbyte_byte_v_l1_eq (i : Int) (j : Int) (s : List Int) :
    slices_Reverse_sbyte_byte_v_l1 i j s = (
      sif (decide (i < j))
       (sif (lt3 0 j (s.length : Int))
         (sbind (s[j.toNat]?) fun x1 =>
          sif (lt3 0 i (s.length : Int))
           (sbind (s[i.toNat]?) fun x2 =>
            sif (lt3 0 i (s.length : Int))
             (sif (lt3 0 j ((s.set i.toNat x1).length : Int))
               (slices_Reverse_sbyte_byte_v_l1 (wi64 (i + 1)) (wi64 (j - 1)) ((s.set i.toNat x1).set j.toNat x2)) (none)) (none)) (none)) (none)) (some s)) := seml_eq (f := 283) (m := 0) (l := 1) (by kernel_rfl)
theorem impl_signed_eq (s : ByteArray) :
    impl_signed s = (
      sbind (impl_getBits s) fun r1 =>
      sif (decide (wi64 (64 - (wi64 (8 * (s.size : Int)))) < 0)) (none) <|
      sif (decide (wi64 (64 - (wi64 (8 * (s.size : Int)))) < 0)) (none) <|
      some (Int.fdiv (wi64 (wu64 (r1 * 2 ^ (min (wi64 (64 - (wi64 (8 * (s.size : Int))))).toNat 64)))) (2 ^ (min (wi64 (64 - (wi64 (8 * (s.size : Int))))).toNat 64)))) := sem_eq (f := 230) (m := 0) rfl (by kernel_rfl)
theorem impl_getBits_eq (s : ByteArray) :
    impl_getBits s = (
      impl_getBits_l3 s 0 (s.size : Int) 0) := sem_eq (f := 231) (m := 0) rfl (by kernel_rfl)
theorem impl_getBits_l3_eq (s : ByteArray) (n : Int) (t6 : Int) (t7 : Int) :
    impl_getBits_l3 s n t6 t7 = (
      sif (decide (t7 < t6))
       (sbind (bidx s t7) fun b1 =>
        sif (decide (wi64 (8 * t7) < 0)) (none) <|
        impl_getBits_l3 s (bits .or .u64 n (wu64 ((wu64 b1) * 2 ^ (min (wi64 (8 * t7)).toNat 64)))) t6 (wi64 (t7 + 1))) (some n)) := seml_eq (f := 231) (m := 0) (l := 3) (by kernel_rfl)
theorem impl_Type_gapsOk_eq (t_Kind : Int) (t_Size : Int) (t_Signed : Bool) (t_Big : Bool) (t_Names : List ByteArray) (t_Nums : List Int) (t_Members : List (ByteArray × Int × Ty_Type)) (t_Base : List Ty_Type) (t_Count : Int) (b : ByteArray) :
    impl_Type_gapsOk t_Kind t_Size t_Signed t_Big t_Names t_Nums t_Members t_Base t_Count b = (
      impl_Type_gapsOk_l3 t_Members (t_Members.length : Int) 0 (ofB b)) := sem_eq (f := 171) (m := 0) rfl (by kernel_rfl)
theorem impl_Type_gapsOk_l3_eq (t11 : List (ByteArray × Int × Ty_Type)) (t12 : Int) (t13 : Int) (rest : List Int) :
    impl_Type_gapsOk_l3 t11 t12 t13 rest = (
      sif (decide (t13 < t12))
       (sbind (idx t11 t13) fun x1 =>
        sbind (impl_Type_size x1.2.2.f_Kind x1.2.2.f_Size x1.2.2.f_Signed x1.2.2.f_Big x1.2.2.f_Names x1.2.2.f_Nums x1.2.2.f_Members x1.2.2.f_Base x1.2.2.f_Count) fun r2 =>
        sif (le3 0 (wi64 (x1.2.1 + r2)) (rest.length : Int))
         (sif (le3 0 x1.2.1 (wi64 (x1.2.1 + r2)))
           (impl_Type_gapsOk_l3 t11 t12 (wi64 (t13 + 1)) (rest.take x1.2.1.toNat ++ ((List.replicate (((wi64 (x1.2.1 + r2)).toNat) - x1.2.1.toNat) (0 : Int)) ++ rest.drop (x1.2.1.toNat + (List.replicate (((wi64 (x1.2.1 + r2)).toNat) - x1.2.1.toNat) (0 : Int)).length)))) (none)) (none)) <|
      sbind (impl_trimmed (toB rest)) fun r1 =>
      some (seq r1 (bs []))) := seml_eq (f := 171) (m := 0) (l := 3) (by kernel_rfl)
theorem impl_Type_parts_eq (t_Kind : Int) (t_Size : Int) (t_Signed : Bool) (t_Big : Bool) (t_Names : List ByteArray) (t_Nums : List Int) (t_Members : List (ByteArray × Int × Ty_Type)) (t_Base : List Ty_Type) (t_Count : Int) (b : ByteArray) :
    impl_Type_parts t_Kind t_Size t_Signed t_Big t_Names t_Nums t_Members t_Base t_Count b = (
      sif ((t_Kind == 4)) (impl_Type_parts_l5 b t_Members (t_Members.length : Int) 0 ([] : List (Ty_Type × ByteArray))) <|
      sif ((t_Kind == 5))
       (sbind (idx t_Base 0) fun x1 =>
        sbind (impl_Type_size x1.f_Kind x1.f_Size x1.f_Signed x1.f_Big x1.f_Names x1.f_Nums x1.f_Members x1.f_Base x1.f_Count) fun r2 =>
        impl_Type_parts_l12 b r2 t_Count 0 t_Kind t_Size t_Signed t_Big t_Names t_Nums t_Members t_Base t_Count ([] : List (Ty_Type × ByteArray))) (some ([] : List (Ty_Type × ByteArray)))) := sem_eq (f := 148) (m := 0) rfl (by kernel_rfl)
theorem impl_Type_parts_l5_eq (b : ByteArray) (t15 : List (ByteArray × Int × Ty_Type)) (t16 : Int) (t17 : Int) (out : List (Ty_Type × ByteArray)) :
    impl_Type_parts_l5 b t15 t16 t17 out = (
      sif (decide (t17 < t16))
       (sbind (idx t15 t17) fun x1 =>
        sbind (impl_Type_size x1.2.2.f_Kind x1.2.2.f_Size x1.2.2.f_Signed x1.2.2.f_Big x1.2.2.f_Names x1.2.2.f_Nums x1.2.2.f_Members x1.2.2.f_Base x1.2.2.f_Count) fun r2 =>
        sif (le3 0 (wi64 (x1.2.1 + r2)) (b.size : Int))
         (sif (le3 0 x1.2.1 (wi64 (x1.2.1 + r2)))
           (sif (room (out.length + 1) 144)
             (impl_Type_parts_l5 b t15 t16 (wi64 (t17 + 1)) (out ++ [((Ty_Type.mk x1.2.2.f_Kind x1.2.2.f_Size x1.2.2.f_Signed x1.2.2.f_Big x1.2.2.f_Names x1.2.2.f_Nums x1.2.2.f_Members x1.2.2.f_Base x1.2.2.f_Count), b.extract x1.2.1.toNat ((wi64 (x1.2.1 + r2)).toNat))])) (none)) (none)) (none)) (some out)) := seml_eq (f := 148) (m := 0) (l := 5) (by kernel_rfl)
theorem impl_Type_parts_l12_eq (b : ByteArray) (n : Int) (t46 : Int) (t47 : Int) (t_Kind : Int) (t_Size : Int) (t_Signed : Bool) (t_Big : Bool) (t_Names : List ByteArray) (t_Nums : List Int) (t_Members : List (ByteArray × Int × Ty_Type)) (t_Base : List Ty_Type) (t_Count : Int) (out : List (Ty_Type × ByteArray)) :
    impl_Type_parts_l12 b n t46 t47 t_Kind t_Size t_Signed t_Big t_Names t_Nums t_Members t_Base t_Count out = (
      sif (decide (t47 < t46))
       (sbind (idx t_Base 0) fun x1 =>
        sif (le3 0 (wi64 ((wi64 (t47 + 1)) * n)) (b.size : Int))
         (sif (le3 0 (wi64 (t47 * n)) (wi64 ((wi64 (t47 + 1)) * n)))
           (sif (room (out.length + 1) 144)
             (impl_Type_parts_l12 b n t46 (wi64 (t47 + 1)) t_Kind t_Size t_Signed t_Big t_Names t_Nums t_Members t_Base t_Count (out ++ [((Ty_Type.mk x1.f_Kind x1.f_Size x1.f_Signed x1.f_Big x1.f_Names x1.f_Nums x1.f_Members x1.f_Base x1.f_Count), b.extract ((wi64 (t47 * n)).toNat) ((wi64 ((wi64 (t47 + 1)) * n)).toNat))])) (none)) (none)) (none)) (some out)) := seml_eq (f := 148) (m := 0) (l := 12) (by kernel_rfl)
theorem slices_ContainsFunc_simpl_part_impl_part_d_Type_isElement_1_eq (s : List (Ty_Type × ByteArray)) :
    slices_ContainsFunc_simpl_part_impl_part_d_Type_isElement_1 s = (
      sbind (slices_IndexFunc_simpl_part_impl_part_d_Type_isElement_1 s) fun r1 =>
      some (decide (r1 ≥ 0))) := sem_eq (f := 172) (m := 0) rfl (by kernel_rfl)
theorem slices_IndexFunc_simpl_part_impl_part_d_Type_isElement_1_eq (s : List (Ty_Type × ByteArray)) :
    slices_IndexFunc_simpl_part_impl_part_d_Type_isElement_1 s = (
      slices_IndexFunc_simpl_part_impl_part_d_Type_isElement_1_l2 s (s.length : Int) 0) := sem_eq (f := 244) (m := 0) rfl (by kernel_rfl)
theorem slices_IndexFunc_simpl_part_impl_part_d_Type_isElement_1_l2_eq (s : List (Ty_Type × ByteArray)) (t7 : Int) (t8 : Int) :
    slices_IndexFunc_simpl_part_impl_part_d_Type_isElement_1_l2 s t7 t8 = (
      sif (decide (t8 < t7))
       (sbind (idx s t8) fun x1 =>
        sbind (impl_Type_isElement_1 x1.1.f_Kind x1.1.f_Size x1.1.f_Signed x1.1.f_Big x1.1.f_Names x1.1.f_Nums x1.1.f_Members x1.1.f_Base x1.1.f_Count x1.2) fun r2 =>
        sif (r2) (some t8) <|
        slices_IndexFunc_simpl_part_impl_part_d_Type_isElement_1_l2 s t7 (wi64 (t8 + 1))) (some (-1))) := seml_eq (f := 244) (m := 0) (l := 2) (by kernel_rfl)
theorem impl_Type_isElement_1_eq (p_t_Kind : Int) (p_t_Size : Int) (p_t_Signed : Bool) (p_t_Big : Bool) (p_t_Names : List ByteArray) (p_t_Nums : List Int) (p_t_Members : List (ByteArray × Int × Ty_Type)) (p_t_Base : List Ty_Type) (p_t_Count : Int) (p_b : ByteArray) :
    impl_Type_isElement_1 p_t_Kind p_t_Size p_t_Signed p_t_Big p_t_Names p_t_Nums p_t_Members p_t_Base p_t_Count p_b = (
      sbind (impl_Type_isElement p_t_Kind p_t_Size p_t_Signed p_t_Big p_t_Names p_t_Nums p_t_Members p_t_Base p_t_Count p_b) fun r1 =>
      some !r1) := sem_eq (f := 173) (m := 0) rfl (by kernel_rfl)
theorem impl_Type_elementText_eq (t_Kind : Int) (t_Size : Int) (t_Signed : Bool) (t_Big : Bool) (t_Names : List ByteArray) (t_Nums : List Int) (t_Members : List (ByteArray × Int × Ty_Type)) (t_Base : List Ty_Type) (t_Count : Int) (b : ByteArray) :
    impl_Type_elementText t_Kind t_Size t_Signed t_Big t_Names t_Nums t_Members t_Base t_Count b = (
      sbind (impl_Type_parts t_Kind t_Size t_Signed t_Big t_Names t_Nums t_Members t_Base t_Count b) fun r1 =>
      impl_Type_elementText_l3 b (r1.length : Int) 0 t_Kind t_Size t_Signed t_Big t_Names t_Nums t_Members t_Base t_Count ([] : List ByteArray) r1) := sem_eq (f := 77) (m := 0) rfl (by kernel_rfl)
theorem impl_Type_elementText_l3_eq (b : ByteArray) (t13 : Int) (t14 : Int) (t_Kind : Int) (t_Size : Int) (t_Signed : Bool) (t_Big : Bool) (t_Names : List ByteArray) (t_Nums : List Int) (t_Members : List (ByteArray × Int × Ty_Type)) (t_Base : List Ty_Type) (t_Count : Int) (texts : List ByteArray) (t12 : List (Ty_Type × ByteArray)) :
    impl_Type_elementText_l3 b t13 t14 t_Kind t_Size t_Signed t_Big t_Names t_Nums t_Members t_Base t_Count texts t12 = (
      sif (decide (t14 < t13))
       (sif (lt3 0 t14 (t12.length : Int))
         (sbind (t12[t14.toNat]?) fun x1 =>
          sbind (impl_Type_elementText x1.1.f_Kind x1.1.f_Size x1.1.f_Signed x1.1.f_Big x1.1.f_Names x1.1.f_Nums x1.1.f_Members x1.1.f_Base x1.1.f_Count x1.2) fun r2 =>
          sif ((t_Kind == 4))
           (sbind (idx t_Members t14) fun x3 =>
            sif (joins x3.1 (bs [61]))
             (sif (joins (x3.1 ++ (bs [61])) r2)
               (sif (room (texts.length + 1) 16)
                 (impl_Type_elementText_l3 b t13 (wi64 (t14 + 1)) t_Kind t_Size t_Signed t_Big t_Names t_Nums t_Members t_Base t_Count (texts ++ [(x3.1 ++ (bs [61])) ++ r2]) t12) (none)) (none)) (none)) <|
          sif (room (texts.length + 1) 16)
           (impl_Type_elementText_l3 b t13 (wi64 (t14 + 1)) t_Kind t_Size t_Signed t_Big t_Names t_Nums t_Members t_Base t_Count (texts ++ [r2]) t12) (none)) (none)) <|
      sbind (strings_Join texts (bs [44])) fun r1 =>
      sif ((t_Kind == 1))
       (sbind (impl_Type_number t_Kind t_Size t_Signed t_Big t_Names t_Nums t_Members t_Base t_Count b) fun r2 =>
        sbind (impl_decimal r2) fun r3 =>
        some r3) <|
      sif ((t_Kind == 2))
       (sbind (impl_trimmed b) fun r2 =>
        sbind (impl_quoted r2) fun r3 =>
        some r3) <|
      sif ((t_Kind == 3))
       (sbind (impl_Type_number t_Kind t_Size t_Signed t_Big t_Names t_Nums t_Members t_Base t_Count b) fun r2 =>
        sbind (slices_Index_sint64_int64 t_Nums r2) fun r3 =>
        sbind (idx t_Names r3) fun x4 =>
        some x4) <|
      sif ((t_Kind == 4))
       (sif (joins (bs [123]) r1)
         (sif (joins ((bs [123]) ++ r1) (bs [125])) (some (((bs [123]) ++ r1) ++ (bs [125]))) (none)) (none)) <|
      sif ((t_Kind == 5))
       (sif (joins (bs [91]) r1) (sif (joins ((bs [91]) ++ r1) (bs [93])) (some (((bs [91]) ++ r1) ++ (bs [93]))) (none)) (none)) <|
      sbind (impl_Type_number t_Kind t_Size t_Signed t_Big t_Names t_Nums t_Members t_Base t_Count b) fun r2 =>
      sbind (impl_decimal r2) fun r3 =>
      sif (joins (bs [35]) r3) (some ((bs [35]) ++ r3)) (none)) := seml_eq (f := 77) (m := 0) (l := 3) (by kernel_rfl)
theorem strings_Join_eq (x0 : List ByteArray) (x1 : ByteArray) : strings_Join x0 x1 = joinI x0 x1 := ext_eq (E := E) (f := 149) (m := 0) (g := fun (d : List ByteArray × ByteArray) => (joinI (d.1) (d.2) : Option (ByteArray))) (by kernel_rfl) (x0, x1)
theorem impl_decimal_eq (n : Int) :
    impl_decimal n = (
      sbind (strconv_FormatInt n 10) fun r1 =>
      some r1) := sem_eq (f := 150) (m := 0) rfl (by kernel_rfl)
theorem strconv_FormatInt_eq (x0 : Int) (x1 : Int) : strconv_FormatInt x0 x1 = fmtInt x0 x1 := ext_eq (E := E) (f := 228) (m := 0) (g := fun (d : Int × Int) => (fmtInt (d.1) (d.2) : Option (ByteArray))) (by kernel_rfl) (x0, x1)
theorem impl_quoted_eq (b : ByteArray) :
    impl_quoted b = (
      sbind (strings_Builder_WriteByte_wv 34 ([] : List Int)) fun r1 =>
      impl_quoted_l4 b (b.size : Int) 0 r1) := sem_eq (f := 152) (m := 0) rfl (by kernel_rfl)
theorem impl_quoted_l4_eq (b : ByteArray) (t8 : Int) (t9 : Int) (out_buf : List Int) :
    impl_quoted_l4 b t8 t9 out_buf = (
      sif (decide (t9 < t8))
       (sbind (bidx b t9) fun b1 =>
        sif (decide (b1 < 32))
         (sif (le3 0 (wi64 (t9 + 1)) (b.size : Int))
           (sif (le3 0 t9 (wi64 (t9 + 1)))
             (sbind (impl_HexText (b.extract t9.toNat ((wi64 (t9 + 1)).toNat))) fun r2 =>
              sif (joins (bs [92]) r2)
               (sbind (strings_Builder_WriteString_wv ((bs [92]) ++ r2) out_buf) fun r3 =>
                impl_quoted_l4 b t8 (wi64 (t9 + 1)) r3.2) (none)) (none)) (none)) <|
        sif (decide (b1 > 126))
         (sif (le3 0 (wi64 (t9 + 1)) (b.size : Int))
           (sif (le3 0 t9 (wi64 (t9 + 1)))
             (sbind (impl_HexText (b.extract t9.toNat ((wi64 (t9 + 1)).toNat))) fun r2 =>
              sif (joins (bs [92]) r2)
               (sbind (strings_Builder_WriteString_wv ((bs [92]) ++ r2) out_buf) fun r3 =>
                impl_quoted_l4 b t8 (wi64 (t9 + 1)) r3.2) (none)) (none)) (none)) <|
        sif ((b1 == 34))
         (sif (le3 0 (wi64 (t9 + 1)) (b.size : Int))
           (sif (le3 0 t9 (wi64 (t9 + 1)))
             (sbind (impl_HexText (b.extract t9.toNat ((wi64 (t9 + 1)).toNat))) fun r2 =>
              sif (joins (bs [92]) r2)
               (sbind (strings_Builder_WriteString_wv ((bs [92]) ++ r2) out_buf) fun r3 =>
                impl_quoted_l4 b t8 (wi64 (t9 + 1)) r3.2) (none)) (none)) (none)) <|
        sif ((b1 == 92))
         (sif (le3 0 (wi64 (t9 + 1)) (b.size : Int))
           (sif (le3 0 t9 (wi64 (t9 + 1)))
             (sbind (impl_HexText (b.extract t9.toNat ((wi64 (t9 + 1)).toNat))) fun r2 =>
              sif (joins (bs [92]) r2)
               (sbind (strings_Builder_WriteString_wv ((bs [92]) ++ r2) out_buf) fun r3 =>
                impl_quoted_l4 b t8 (wi64 (t9 + 1)) r3.2) (none)) (none)) (none)) <|
        sbind (strings_Builder_WriteByte_wv b1 out_buf) fun r2 =>
        impl_quoted_l4 b t8 (wi64 (t9 + 1)) r2) <|
      sbind (strings_Builder_WriteByte_wv 34 out_buf) fun r1 =>
      sbind (strings_Builder_String r1) fun r2 =>
      some r2) := seml_eq (f := 152) (m := 0) (l := 4) (by kernel_rfl)
theorem strings_Builder_WriteByte_wv_eq (c : Int) (b_buf : List Int) :
    strings_Builder_WriteByte_wv c b_buf = (
      sbind (strings_Builder_copyCheck ()) fun r1 =>
      sif (room (b_buf.length + 1) 1) (some (b_buf ++ [c])) (none)) := sem_eq (f := 232) (m := 0) rfl (by kernel_rfl)
theorem strings_Builder_copyCheck_eq : strings_Builder_copyCheck () = some () := ext_eq (E := E) (f := 237) (m := 0) (g := fun (_ : Unit) => (some () : Option Unit)) (by kernel_rfl) ()
theorem impl_HexText_eq (s : ByteArray) :
    impl_HexText s = (
      impl_HexText_l3 s (s.size : Int) 0 ([] : List Int)) := sem_eq (f := 233) (m := 0) rfl (by kernel_rfl)
theorem impl_HexText_l3_eq (s : ByteArray) (t6 : Int) (t7 : Int) (out : List Int) :
    impl_HexText_l3 s t6 t7 out = (
      sif (decide (t7 < t6))
       (sbind (bidx s t7) fun b1 =>
        sbind (bidx (bs [48, 49, 50, 51, 52, 53, 54, 55, 56, 57, 97, 98, 99, 100, 101, 102]) (wu8 (Int.tdiv b1 16))) fun b2 =>
        sbind (bidx s t7) fun b3 =>
        sbind (bidx (bs [48, 49, 50, 51, 52, 53, 54, 55, 56, 57, 97, 98, 99, 100, 101, 102]) (Int.tmod b3 16)) fun b4 =>
        sif (room (out.length + 2) 1) (impl_HexText_l3 s t6 (wi64 (t7 + 1)) (out ++ [b2, b4])) (none)) (some (toB out))) := seml_eq (f := 233) (m := 0) (l := 3) (by kernel_rfl)
theorem strings_Builder_WriteString_wv_eq (s : ByteArray) (b_buf : List Int) :
    strings_Builder_WriteString_wv s b_buf = (
      sbind (strings_Builder_copyCheck ()) fun r1 =>
      sif (room (b_buf.length + ((ofB s).length)) 1) (some ((s.size : Int), b_buf ++ (ofB s))) (none)) := sem_eq (f := 163) (m := 0) rfl (by kernel_rfl)
theorem strings_Builder_String_eq (x0 : List Int) : strings_Builder_String x0 = textB x0 := ext_eq (E := E) (f := 165) (m := 0) (g := fun (d : List Int) => (textB (d) : Option (ByteArray))) (by kernel_rfl) (x0)
theorem laws_eqType_eq (a_Kind : Int) (a_Size : Int) (a_Signed : Bool) (a_Big : Bool) (a_Names : List ByteArray) (a_Nums : List Int) (a_Members : List (ByteArray × Int × Ty_Type)) (a_Base : List Ty_Type) (a_Count : Int) (b_Kind : Int) (b_Size : Int) (b_Signed : Bool) (b_Big : Bool) (b_Names : List ByteArray) (b_Nums : List Int) (b_Members : List (ByteArray × Int × Ty_Type)) (b_Base : List Ty_Type) (b_Count : Int) :
    laws_eqType a_Kind a_Size a_Signed a_Big a_Names a_Nums a_Members a_Base a_Count b_Kind b_Size b_Signed b_Big b_Names b_Nums b_Members b_Base b_Count = (
      sif ((a_Kind != b_Kind)) (some false) <|
      sif ((a_Size != b_Size)) (some false) <|
      sif (!(a_Signed == b_Signed)) (some false) <|
      sif (!(a_Big == b_Big)) (some false) <|
      sbind (laws_eqStringS a_Names b_Names) fun r1 =>
      sif (!r1) (some false) <|
      sbind (laws_eqInt64S a_Nums b_Nums) fun r2 =>
      sif (!r2) (some false) <|
      sbind (laws_eqMemberS a_Members b_Members) fun r3 =>
      sif (!r3) (some false) <|
      sbind (laws_eqTypeS a_Base b_Base) fun r4 =>
      sif (!r4) (some false) (sif ((a_Count != b_Count)) (some false) (some true))) := sem_eq (f := 31) (m := 0) rfl (by kernel_rfl)
theorem laws_eqStringS_eq (a : List ByteArray) (b : List ByteArray) :
    laws_eqStringS a b = (
      sif (((a.length : Int) != (b.length : Int))) (some false) (laws_eqStringS_l4 a b 0)) := sem_eq (f := 18) (m := 0) rfl (by kernel_rfl)
theorem laws_eqStringS_l4_eq (a : List ByteArray) (b : List ByteArray) (i : Int) :
    laws_eqStringS_l4 a b i = (
      sif (decide (i < (a.length : Int)))
       (sbind (idx a i) fun x1 =>
        sbind (idx b i) fun x2 =>
        sif (!seq x1 x2) (some false) (laws_eqStringS_l4 a b (wi64 (i + 1)))) (some true)) := seml_eq (f := 18) (m := 0) (l := 4) (by kernel_rfl)
theorem laws_eqInt64S_eq (a : List Int) (b : List Int) :
    laws_eqInt64S a b = (
      sif (((a.length : Int) != (b.length : Int))) (some false) (laws_eqInt64S_l4 a b 0)) := sem_eq (f := 15) (m := 0) rfl (by kernel_rfl)
theorem laws_eqInt64S_l4_eq (a : List Int) (b : List Int) (i : Int) :
    laws_eqInt64S_l4 a b i = (
      sif (decide (i < (a.length : Int)))
       (sbind (idx a i) fun x1 =>
        sbind (idx b i) fun x2 =>
        sif ((x1 != x2)) (some false) (laws_eqInt64S_l4 a b (wi64 (i + 1)))) (some true)) := seml_eq (f := 15) (m := 0) (l := 4) (by kernel_rfl)
theorem laws_eqMemberS_eq (a : List (ByteArray × Int × Ty_Type)) (b : List (ByteArray × Int × Ty_Type)) :
    laws_eqMemberS a b = (
      sif (((a.length : Int) != (b.length : Int))) (some false) (laws_eqMemberS_l4 a b 0)) := sem_eq (f := 78) (m := 0) rfl (by kernel_rfl)
theorem laws_eqMemberS_l4_eq (a : List (ByteArray × Int × Ty_Type)) (b : List (ByteArray × Int × Ty_Type)) (i : Int) :
    laws_eqMemberS_l4 a b i = (
      sif (decide (i < (a.length : Int)))
       (sbind (idx a i) fun x1 =>
        sbind (idx b i) fun x2 =>
        sbind (laws_eqMember x1.1 x1.2.1 x1.2.2.f_Kind x1.2.2.f_Size x1.2.2.f_Signed x1.2.2.f_Big x1.2.2.f_Names x1.2.2.f_Nums x1.2.2.f_Members x1.2.2.f_Base x1.2.2.f_Count x2.1 x2.2.1 x2.2.2.f_Kind x2.2.2.f_Size x2.2.2.f_Signed x2.2.2.f_Big x2.2.2.f_Names x2.2.2.f_Nums x2.2.2.f_Members x2.2.2.f_Base x2.2.2.f_Count) fun r3 =>
        sif (!r3) (some false) (laws_eqMemberS_l4 a b (wi64 (i + 1)))) (some true)) := seml_eq (f := 78) (m := 0) (l := 4) (by kernel_rfl)
theorem laws_eqMember_eq (a_Name : ByteArray) (a_Offset : Int) (a_Type_Kind : Int) (a_Type_Size : Int) (a_Type_Signed : Bool) (a_Type_Big : Bool) (a_Type_Names : List ByteArray) (a_Type_Nums : List Int) (a_Type_Members : List (ByteArray × Int × Ty_Type)) (a_Type_Base : List Ty_Type) (a_Type_Count : Int) (b_Name : ByteArray) (b_Offset : Int) (b_Type_Kind : Int) (b_Type_Size : Int) (b_Type_Signed : Bool) (b_Type_Big : Bool) (b_Type_Names : List ByteArray) (b_Type_Nums : List Int) (b_Type_Members : List (ByteArray × Int × Ty_Type)) (b_Type_Base : List Ty_Type) (b_Type_Count : Int) :
    laws_eqMember a_Name a_Offset a_Type_Kind a_Type_Size a_Type_Signed a_Type_Big a_Type_Names a_Type_Nums a_Type_Members a_Type_Base a_Type_Count b_Name b_Offset b_Type_Kind b_Type_Size b_Type_Signed b_Type_Big b_Type_Names b_Type_Nums b_Type_Members b_Type_Base b_Type_Count = (
      sif (!seq a_Name b_Name) (some false) <|
      sif ((a_Offset != b_Offset)) (some false) <|
      sbind (laws_eqType a_Type_Kind a_Type_Size a_Type_Signed a_Type_Big a_Type_Names a_Type_Nums a_Type_Members a_Type_Base a_Type_Count b_Type_Kind b_Type_Size b_Type_Signed b_Type_Big b_Type_Names b_Type_Nums b_Type_Members b_Type_Base b_Type_Count) fun r1 =>
      sif (!r1) (some false) (some true)) := sem_eq (f := 154) (m := 0) rfl (by kernel_rfl)
theorem laws_eqTypeS_eq (a : List Ty_Type) (b : List Ty_Type) :
    laws_eqTypeS a b = (
      sif (((a.length : Int) != (b.length : Int))) (some false) (laws_eqTypeS_l4 a b 0)) := sem_eq (f := 79) (m := 0) rfl (by kernel_rfl)
theorem laws_eqTypeS_l4_eq (a : List Ty_Type) (b : List Ty_Type) (i : Int) :
    laws_eqTypeS_l4 a b i = (
      sif (decide (i < (a.length : Int)))
       (sbind (idx a i) fun x1 =>
        sbind (idx b i) fun x2 =>
        sbind (laws_eqType x1.f_Kind x1.f_Size x1.f_Signed x1.f_Big x1.f_Names x1.f_Nums x1.f_Members x1.f_Base x1.f_Count x2.f_Kind x2.f_Size x2.f_Signed x2.f_Big x2.f_Names x2.f_Nums x2.f_Members x2.f_Base x2.f_Count) fun r3 =>
        sif (!r3) (some false) (laws_eqTypeS_l4 a b (wi64 (i + 1)))) (some true)) := seml_eq (f := 79) (m := 0) (l := 4) (by kernel_rfl)
def Ok_Ty_Type (x : Ty_Type) : Prop := ((Lit.int .i64 x.f_Kind).wf = true) ∧ ((Lit.int .i64 x.f_Size).wf = true) ∧ (True) ∧ (True) ∧ (x.f_Names.length ≤ maxLen ∧ x.f_Names.length * 16 ≤ 140737488351232 ∧ ∀ e_ ∈ x.f_Names, e_.size ≤ 140737488351232) ∧ (x.f_Nums.length ≤ maxLen ∧ x.f_Nums.length * 8 ≤ 140737488351232 ∧ ∀ e_ ∈ x.f_Nums, (Lit.int .i64 e_).wf = true) ∧ (x.f_Members.length ≤ maxLen ∧ x.f_Members.length * 152 ≤ 140737488351232 ∧ ∀ e_ ∈ x.f_Members, (e_.1.size ≤ 140737488351232) ∧ ((Lit.int .i64 e_.2.1).wf = true) ∧ (Ok_Ty_Type e_.2.2)) ∧ (x.f_Base.length ≤ maxLen ∧ x.f_Base.length * 128 ≤ 140737488351232 ∧ ∀ e_ ∈ x.f_Base, Ok_Ty_Type e_) ∧ ((Lit.int .i64 x.f_Count).wf = true)
termination_by SizeOf.sizeOf x
decreasing_by
  · obtain ⟨⟩ := x
    have h1 := List.sizeOf_lt_of_mem ‹_ ∈ _›
    obtain ⟨a0, a1, a2⟩ := e_
    simp [Ty_Type.f_Members] at h1 ⊢
    omega
  · obtain ⟨⟩ := x
    have h1 := List.sizeOf_lt_of_mem ‹_ ∈ _›
    simp [Ty_Type.f_Base] at h1 ⊢
    omega
theorem Ok_Ty_Type.mk (x : Ty_Type) (h : ((Lit.int .i64 x.f_Kind).wf = true) ∧ ((Lit.int .i64 x.f_Size).wf = true) ∧ (True) ∧ (True) ∧ (x.f_Names.length ≤ maxLen ∧ x.f_Names.length * 16 ≤ 140737488351232 ∧ ∀ e_ ∈ x.f_Names, e_.size ≤ 140737488351232) ∧ (x.f_Nums.length ≤ maxLen ∧ x.f_Nums.length * 8 ≤ 140737488351232 ∧ ∀ e_ ∈ x.f_Nums, (Lit.int .i64 e_).wf = true) ∧ (x.f_Members.length ≤ maxLen ∧ x.f_Members.length * 152 ≤ 140737488351232 ∧ ∀ e_ ∈ x.f_Members, (e_.1.size ≤ 140737488351232) ∧ ((Lit.int .i64 e_.2.1).wf = true) ∧ (Ok_Ty_Type e_.2.2)) ∧ (x.f_Base.length ≤ maxLen ∧ x.f_Base.length * 128 ≤ 140737488351232 ∧ ∀ e_ ∈ x.f_Base, Ok_Ty_Type e_) ∧ ((Lit.int .i64 x.f_Count).wf = true)) : Ok_Ty_Type x := by rw [Ok_Ty_Type]; exact h
theorem Ok_Ty_Type.out {x : Ty_Type} (h : Ok_Ty_Type x) : ((Lit.int .i64 x.f_Kind).wf = true) ∧ ((Lit.int .i64 x.f_Size).wf = true) ∧ (True) ∧ (True) ∧ (x.f_Names.length ≤ maxLen ∧ x.f_Names.length * 16 ≤ 140737488351232 ∧ ∀ e_ ∈ x.f_Names, e_.size ≤ 140737488351232) ∧ (x.f_Nums.length ≤ maxLen ∧ x.f_Nums.length * 8 ≤ 140737488351232 ∧ ∀ e_ ∈ x.f_Nums, (Lit.int .i64 e_).wf = true) ∧ (x.f_Members.length ≤ maxLen ∧ x.f_Members.length * 152 ≤ 140737488351232 ∧ ∀ e_ ∈ x.f_Members, (e_.1.size ≤ 140737488351232) ∧ ((Lit.int .i64 e_.2.1).wf = true) ∧ (Ok_Ty_Type e_.2.2)) ∧ (x.f_Base.length ≤ maxLen ∧ x.f_Base.length * 128 ≤ 140737488351232 ∧ ∀ e_ ∈ x.f_Base, Ok_Ty_Type e_) ∧ ((Lit.int .i64 x.f_Count).wf = true) := by rw [Ok_Ty_Type] at h; exact h
end Go.Ve.X
