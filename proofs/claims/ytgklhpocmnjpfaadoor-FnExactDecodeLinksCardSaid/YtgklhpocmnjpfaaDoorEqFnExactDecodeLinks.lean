/- The equations of the functions that 'FnExactDecodeLinks' reaches (printed by plan.py): what each answers. No condition. -/
import Derived.Test.YtgklhpocmnjpfaaDoorEnvFnExactDecodeLinks
namespace Go.Ve.X
open Go.Proofs Go.Ve Go.RowKit
set_option linter.unusedVariables false
set_option maxRecDepth 100000
theorem laws_FnExactDecodeLinks_eq (aS : ByteArray) (aH_Names : List ByteArray) :
    laws_FnExactDecodeLinks aS aH_Names = (
      sif (decide ((aS.size : Int) > 1048576)) (some true) <|
      sbind (laws_szNameHeap aH_Names 1048576) fun r1 =>
      sif (decide (r1 < 0)) (some true) <|
      sbind (laws_toNameHeap aH_Names) fun r2 =>
      sbind (spec_DecodeLinks aS r2) fun r3 =>
      sbind (laws_toNameHeap aH_Names) fun r4 =>
      sbind (impl_DecodeLinks aS r4) fun r5 =>
      sbind (laws_eqLinkS r5.2 r3.2) fun r6 =>
      sif (!r6) (some false) <|
      sif (!(r5.1 == r3.1)) (some false) <|
      sbind (laws_toNameHeap aH_Names) fun r7 =>
      sbind (laws_eqNameHeap r4 r7) fun r8 =>
      sif (!r8) (some false) <|
      sbind (laws_markNameHeap_v 1 r4) fun r9 =>
      sif (decide (r9.1 < 0)) (some false) <|
      sbind (laws_eqLinkS r5.2 r3.2) fun r10 =>
      sif (!r10) (some false) <|
      sif (!(r5.1 == r3.1)) (some false) <|
      sbind (laws_markLinkS_v 1 r5.2) fun r11 =>
      sbind (laws_heldLinkS r11.2 1) fun r12 =>
      sif (decide (r12 < 0)) (some false) <|
      sif ((r12 != r11.1)) (some false) <|
      sbind (laws_toNameHeap aH_Names) fun r13 =>
      sbind (impl_DecodeLinks aS r13) fun r14 =>
      sbind (laws_eqLinkS r14.2 r3.2) fun r15 =>
      sif (!r15) (some false) <|
      sif (!(r14.1 == r3.1)) (some false) <|
      sbind (laws_heldLinkS r11.2 1) fun r16 =>
      sif (decide (r16 < 0)) (some false) (sif ((r16 != r11.1)) (some false) (some true))) := sem_eq (f := 7) (m := 0) rfl (by kernel_rfl)
theorem laws_szNameHeap_eq (a_Names : List ByteArray) (left : Int) :
    laws_szNameHeap a_Names left = (
      sbind (laws_szStringS a_Names left) fun r1 =>
      sif (decide (r1 < 0)) (some (-1)) (some r1)) := sem_eq (f := 27) (m := 0) rfl (by kernel_rfl)
theorem laws_szStringS_eq (a : List ByteArray) (left : Int) :
    laws_szStringS a left = (
      sif (decide (wi64 (left - (a.length : Int)) < 0)) (some (-1)) <|
      laws_szStringS_l5 a (wi64 (left - (a.length : Int))) 0) := sem_eq (f := 62) (m := 0) rfl (by kernel_rfl)
theorem laws_szStringS_l5_eq (a : List ByteArray) (left : Int) (i : Int) :
    laws_szStringS_l5 a left i = (
      sif (decide (i < (a.length : Int)))
       (sbind (idx a i) fun x1 =>
        sif (decide (wi64 (left - (x1.size : Int)) < 0)) (some (-1)) <|
        laws_szStringS_l5 a (wi64 (left - (x1.size : Int))) (wi64 (i + 1))) (some left)) := seml_eq (f := 62) (m := 0) (l := 5) (by kernel_rfl)
theorem laws_toNameHeap_eq (a_Names : List ByteArray) :
    laws_toNameHeap a_Names = (
      sbind (laws_toStringS a_Names) fun r1 =>
      some r1) := sem_eq (f := 29) (m := 0) rfl (by kernel_rfl)
theorem laws_toStringS_eq (a : List ByteArray) :
    laws_toStringS a = (
      sif (le3 0 (a.length : Int) (a.length : Int) && room a.length 16) (laws_toStringS_l3 a 0 (List.replicate a.length (bs [] : ByteArray))) (none)) := sem_eq (f := 69) (m := 0) rfl (by kernel_rfl)
theorem laws_toStringS_l3_eq (a : List ByteArray) (i : Int) (out : List ByteArray) :
    laws_toStringS_l3 a i out = (
      sif (decide (i < (a.length : Int)))
       (sbind (idx a i) fun x1 =>
        sif (lt3 0 i (out.length : Int)) (laws_toStringS_l3 a (wi64 (i + 1)) (out.set i.toNat x1)) (none)) (some out)) := seml_eq (f := 69) (m := 0) (l := 3) (by kernel_rfl)
theorem spec_DecodeLinks_eq (s : ByteArray) (h_Names : List ByteArray) :
    spec_DecodeLinks s h_Names = (
      sbind (spec_l16Ok h_Names) fun r1 =>
      sif (!r1) (some (false, ([] : List (ByteArray × Int × ByteArray)))) <|
      spec_DecodeLinks_l5 s h_Names s 0 false ([] : List (ByteArray × Int × ByteArray))) := sem_eq (f := 28) (m := 0) rfl (by kernel_rfl)
theorem spec_DecodeLinks_l5_eq (s : ByteArray) (h : List ByteArray) (r_s : ByteArray) (r_at : Int) (r_bad : Bool) (out : List (ByteArray × Int × ByteArray)) :
    spec_DecodeLinks_l5 s h r_s r_at r_bad out = (
      sif (decide (r_at < (s.size : Int)))
       (sif (!r_bad)
         (sbind (spec_l02Reader_byte_w r_s r_at r_bad) fun r1 =>
          sbind (spec_NameAt h r1.1) fun r2 =>
          sif (!r2.2) (some (false, ([] : List (ByteArray × Int × ByteArray)))) <|
          sbind (spec_l02Reader_byte_w r1.2.1 r1.2.2.1 r1.2.2.2) fun r3 =>
          sif ((r3.1 == 0))
           (sbind (spec_l02Reader_byte_w r3.2.1 r3.2.2.1 r3.2.2.2) fun r4 =>
            sbind (spec_l02Reader_byte_w r4.2.1 r4.2.2.1 r4.2.2.2) fun r5 =>
            sbind (spec_l02Reader_take_w r3.1 r5.2.1 r5.2.2.1 r5.2.2.2) fun r6 =>
            sif (room (out.length + 1) 40)
             (spec_DecodeLinks_l5 s h r6.2.1 r6.2.2.1 r6.2.2.2 (out ++ [(r2.1, wi64 (r4.1 + (wi64 (256 * r5.1))), r6.1)])) (none)) <|
          sbind (spec_l02Reader_take_w r3.1 r3.2.1 r3.2.2.1 r3.2.2.2) fun r4 =>
          sif (room (out.length + 1) 40) (spec_DecodeLinks_l5 s h r4.2.1 r4.2.2.1 r4.2.2.2 (out ++ [(r2.1, 0, r4.1)])) (none)) <|
        sif (r_bad) (some (false, ([] : List (ByteArray × Int × ByteArray)))) <|
        sbind (spec_l17Ok out) fun r1 =>
        sif (!r1) (some (false, ([] : List (ByteArray × Int × ByteArray)))) <|
        sbind (spec_l17Count h) fun r2 =>
        sif ((r2 != (out.length : Int))) (some (false, ([] : List (ByteArray × Int × ByteArray)))) (some (true, out))) <|
      sif (r_bad) (some (false, ([] : List (ByteArray × Int × ByteArray)))) <|
      sbind (spec_l17Ok out) fun r1 =>
      sif (!r1) (some (false, ([] : List (ByteArray × Int × ByteArray)))) <|
      sbind (spec_l17Count h) fun r2 =>
      sif ((r2 != (out.length : Int))) (some (false, ([] : List (ByteArray × Int × ByteArray)))) (some (true, out))) := seml_eq (f := 28) (m := 0) (l := 5) (by kernel_rfl)
theorem spec_l16Ok_eq (h_Names : List ByteArray) :
    spec_l16Ok h_Names = (
      sif (decide ((h_Names.length : Int) > 30)) (some false) <|
      sif (decide ((h_Names.length : Int) > 0))
       (sbind (idx h_Names (wi64 ((h_Names.length : Int) - 1))) fun x1 =>
        sif (seq x1 (bs [])) (some false) (spec_l16Ok_l5 (h_Names.length : Int) 0 h_Names)) (spec_l16Ok_l5 (h_Names.length : Int) 0 h_Names)) := sem_eq (f := 63) (m := 0) rfl (by kernel_rfl)
theorem spec_l16Ok_l5_eq (n : Int) (i : Int) (h : List ByteArray) :
    spec_l16Ok_l5 n i h = (
      sif (decide (i < n))
       (sbind (idx h i) fun x1 =>
        sif (!seq x1 (bs []))
         (sbind (idx h i) fun x2 =>
          sbind (spec_IsName x2) fun r3 =>
          sif (!r3) (some false) (spec_l16Ok_l5 n (wi64 (i + 1)) h)) (spec_l16Ok_l5 n (wi64 (i + 1)) h)) (some true)) := seml_eq (f := 63) (m := 0) (l := 5) (by kernel_rfl)
theorem spec_IsName_eq (s : ByteArray) :
    spec_IsName s = (
      sif (((s.size : Int) == 0)) (some false) <|
      sif (decide ((s.size : Int) > 12)) (some false) <|
      sbind (bidx s 0) fun b1 =>
      sbind (spec_l01Letter b1) fun r2 =>
      sif (!r2) (some false) (spec_IsName_l4 s 1)) := sem_eq (f := 99) (m := 0) rfl (by kernel_rfl)
theorem spec_IsName_l4_eq (s : ByteArray) (i : Int) :
    spec_IsName_l4 s i = (
      sif (decide (i < (s.size : Int)))
       (sbind (bidx s i) fun b1 =>
        sbind (spec_l01Letter b1) fun r2 =>
        sif (!r2)
         (sbind (bidx s i) fun b3 =>
          sif (decide (b3 ≥ 48))
           (sbind (bidx s i) fun b4 =>
            sif (!(decide (b4 ≤ 57)))
             (sbind (bidx s i) fun b5 =>
              sif ((b5 != 95)) (some false) (spec_IsName_l4 s (wi64 (i + 1)))) (spec_IsName_l4 s (wi64 (i + 1)))) <|
          sbind (bidx s i) fun b4 =>
          sif ((b4 != 95)) (some false) (spec_IsName_l4 s (wi64 (i + 1)))) (spec_IsName_l4 s (wi64 (i + 1)))) (some true)) := seml_eq (f := 99) (m := 0) (l := 4) (by kernel_rfl)
theorem spec_l01Letter_eq (c : Int) :
    spec_l01Letter c = (
      sif (decide (c ≥ 65))
       (sif (decide (c ≤ 90)) (some true) <|
        sif (decide (c ≥ 97)) (some (decide (c ≤ 122))) (some false)) <|
      sif (decide (c ≥ 97)) (some (decide (c ≤ 122))) (some false)) := sem_eq (f := 122) (m := 0) rfl (by kernel_rfl)
theorem spec_l02Reader_byte_w_eq (r_s : ByteArray) (r_at : Int) (r_bad : Bool) :
    spec_l02Reader_byte_w r_s r_at r_bad = (
      sif (decide (r_at ≥ (r_s.size : Int))) (some (0, r_s, r_at, true)) <|
      sbind (bidx r_s (wi64 ((wi64 (r_at + 1)) - 1))) fun b1 =>
      some (wi64 b1, r_s, wi64 (r_at + 1), r_bad)) := sem_eq (f := 65) (m := 0) rfl (by kernel_rfl)
theorem spec_NameAt_eq (h_Names : List ByteArray) (k : Int) :
    spec_NameAt h_Names k = (
      sbind (spec_l16Ok h_Names) fun r1 =>
      sif (!r1) (some (bs [], false)) <|
      sbind (spec_l00In k 0 (wi64 ((h_Names.length : Int) - 1))) fun r2 =>
      sif (!r2) (some (bs [], false)) <|
      sbind (idx h_Names k) fun x3 =>
      sif (seq x3 (bs [])) (some (bs [], false)) <|
      sbind (idx h_Names k) fun x4 =>
      some (x4, true)) := sem_eq (f := 64) (m := 0) rfl (by kernel_rfl)
theorem spec_l00In_eq (n : Int) (low : Int) (high : Int) :
    spec_l00In n low high = (
      sif (decide (n ≥ low)) (some (decide (n ≤ high))) (some false)) := sem_eq (f := 39) (m := 0) rfl (by kernel_rfl)
theorem spec_l02Reader_take_w_eq (n : Int) (r_s : ByteArray) (r_at : Int) (r_bad : Bool) :
    spec_l02Reader_take_w n r_s r_at r_bad = (
      sif (decide (n < 0)) (some (bs [], r_s, r_at, true)) <|
      sif (decide (n > wi64 ((r_s.size : Int) - r_at))) (some (bs [], r_s, r_at, true)) <|
      sif (le3 0 (wi64 (r_at + n)) (r_s.size : Int))
       (sif (le3 0 (wi64 ((wi64 (r_at + n)) - n)) (wi64 (r_at + n)))
         (some (r_s.extract ((wi64 ((wi64 (r_at + n)) - n)).toNat) ((wi64 (r_at + n)).toNat), r_s, wi64 (r_at + n), r_bad)) (none)) (none)) := sem_eq (f := 66) (m := 0) rfl (by kernel_rfl)
theorem spec_l17Ok_eq (list : List (ByteArray × Int × ByteArray)) :
    spec_l17Ok list = (
      spec_l17Ok_l2 list 0) := sem_eq (f := 67) (m := 0) rfl (by kernel_rfl)
theorem spec_l17Ok_l2_eq (list : List (ByteArray × Int × ByteArray)) (i : Int) :
    spec_l17Ok_l2 list i = (
      sif (decide (i < (list.length : Int)))
       (sbind (idx list i) fun x1 =>
        sbind (spec_IsName x1.1) fun r2 =>
        sif (!r2) (some false) <|
        sif (decide (i > 0))
         (sbind (idx list (wi64 (i - 1))) fun x3 =>
          sif (!slt x3.1 x1.1) (some false) <|
          sif (seq x1.2.2 (bs []))
           (sbind (spec_l00In x1.2.1 1 255) fun r4 =>
            sif (!r4) (some false) <|
            sif (!seq x1.2.2 (bs []))
             (sif ((x1.2.1 != 0)) (some false) <|
              sbind (spec_ValidPath x1.2.2) fun r5 =>
              sif (!r5) (some false) (spec_l17Ok_l2 list (wi64 (i + 1)))) (spec_l17Ok_l2 list (wi64 (i + 1)))) <|
          sif (!seq x1.2.2 (bs []))
           (sif ((x1.2.1 != 0)) (some false) <|
            sbind (spec_ValidPath x1.2.2) fun r4 =>
            sif (!r4) (some false) (spec_l17Ok_l2 list (wi64 (i + 1)))) (spec_l17Ok_l2 list (wi64 (i + 1)))) <|
        sif (seq x1.2.2 (bs []))
         (sbind (spec_l00In x1.2.1 1 255) fun r3 =>
          sif (!r3) (some false) <|
          sif (!seq x1.2.2 (bs []))
           (sif ((x1.2.1 != 0)) (some false) <|
            sbind (spec_ValidPath x1.2.2) fun r4 =>
            sif (!r4) (some false) (spec_l17Ok_l2 list (wi64 (i + 1)))) (spec_l17Ok_l2 list (wi64 (i + 1)))) <|
        sif (!seq x1.2.2 (bs []))
         (sif ((x1.2.1 != 0)) (some false) <|
          sbind (spec_ValidPath x1.2.2) fun r3 =>
          sif (!r3) (some false) (spec_l17Ok_l2 list (wi64 (i + 1)))) (spec_l17Ok_l2 list (wi64 (i + 1)))) (some (decide ((list.length : Int) ≤ 12)))) := seml_eq (f := 67) (m := 0) (l := 2) (by kernel_rfl)
theorem spec_ValidPath_eq (s : ByteArray) :
    spec_ValidPath s = (
      sbind (spec_l17Split s) fun r1 =>
      some r1.1) := sem_eq (f := 100) (m := 0) rfl (by kernel_rfl)
theorem spec_l17Split_eq (s : ByteArray) :
    spec_l17Split s = (
      sif (seq s (bs [47])) (some (true, ([] : List ByteArray))) <|
      sif (seq s (bs [])) (some (false, ([] : List ByteArray))) <|
      sbind (bidx s 0) fun b1 =>
      sif ((b1 != 47)) (some (false, ([] : List ByteArray))) (spec_l17Split_l8 s 1 1 ([] : List ByteArray))) := sem_eq (f := 123) (m := 0) rfl (by kernel_rfl)
theorem spec_l17Split_l8_eq (s : ByteArray) (from_ : Int) (i : Int) (out : List ByteArray) :
    spec_l17Split_l8 s from_ i out = (
      sif (decide (i ≤ (s.size : Int)))
       (sif (decide (i < (s.size : Int)))
         (sbind (bidx s i) fun b1 =>
          sif ((b1 != 47)) (spec_l17Split_l8 s from_ (wi64 (i + 1)) out) <|
          sif (le3 0 i (s.size : Int))
           (sif (le3 0 from_ i)
             (sbind (spec_IsName (s.extract from_.toNat i.toNat)) fun r2 =>
              sif (!r2) (some (false, ([] : List ByteArray))) <|
              sif (le3 0 i (s.size : Int))
               (sif (le3 0 from_ i)
                 (sif (room (out.length + 1) 16)
                   (spec_l17Split_l8 s (wi64 (i + 1)) (wi64 (i + 1)) (out ++ [s.extract from_.toNat i.toNat])) (none)) (none)) (none)) (none)) (none)) <|
        sif (le3 0 i (s.size : Int))
         (sif (le3 0 from_ i)
           (sbind (spec_IsName (s.extract from_.toNat i.toNat)) fun r1 =>
            sif (!r1) (some (false, ([] : List ByteArray))) <|
            sif (le3 0 i (s.size : Int))
             (sif (le3 0 from_ i)
               (sif (room (out.length + 1) 16)
                 (spec_l17Split_l8 s (wi64 (i + 1)) (wi64 (i + 1)) (out ++ [s.extract from_.toNat i.toNat])) (none)) (none)) (none)) (none)) (none)) <|
      sif (decide ((out.length : Int) > 6)) (some (false, ([] : List ByteArray))) (some (true, out))) := seml_eq (f := 123) (m := 0) (l := 8) (by kernel_rfl)
theorem spec_l17Count_eq (h_Names : List ByteArray) :
    spec_l17Count h_Names = (
      spec_l17Count_l3 0 0 h_Names) := sem_eq (f := 68) (m := 0) rfl (by kernel_rfl)
theorem spec_l17Count_l3_eq (n : Int) (i : Int) (h : List ByteArray) :
    spec_l17Count_l3 n i h = (
      sif (decide (i < (h.length : Int)))
       (sbind (idx h i) fun x1 =>
        sif (!seq x1 (bs [])) (spec_l17Count_l3 (wi64 (n + 1)) (wi64 (i + 1)) h) (spec_l17Count_l3 n (wi64 (i + 1)) h)) (some n)) := seml_eq (f := 68) (m := 0) (l := 3) (by kernel_rfl)
theorem impl_DecodeLinks_eq (s : ByteArray) (h_Names : List ByteArray) :
    impl_DecodeLinks s h_Names = (
      sbind (impl_ValidHeap h_Names) fun r1 =>
      sif (!r1) (some (false, ([] : List (ByteArray × Int × ByteArray)))) <|
      impl_DecodeLinks_l5 h_Names s false ([] : List (ByteArray × Int × ByteArray))) := sem_eq (f := 30) (m := 0) rfl (by kernel_rfl)
theorem impl_DecodeLinks_l5_eq (h : List ByteArray) (d_rest : ByteArray) (d_bad : Bool) (list : List (ByteArray × Int × ByteArray)) :
    impl_DecodeLinks_l5 h d_rest d_bad list = (
      sif (!seq d_rest (bs []))
       (sif (!d_bad)
         (sbind (impl_decoder_link_wd h d_rest d_bad) fun r1 =>
          sif (room (list.length + 1) 40) (impl_DecodeLinks_l5 h r1.2.2.2.1 r1.2.2.2.2 (list ++ [(r1.1, r1.2.1, r1.2.2.1)])) (none)) <|
        sif (d_bad) (some (false, ([] : List (ByteArray × Int × ByteArray)))) <|
        sbind (impl_ValidLinks list) fun r1 =>
        sif (!r1) (some (false, ([] : List (ByteArray × Int × ByteArray)))) <|
        sbind (impl_NameHeap_usedSlots h) fun r2 =>
        sif ((r2 != (list.length : Int))) (some (false, ([] : List (ByteArray × Int × ByteArray)))) (some (true, list))) <|
      sif (d_bad) (some (false, ([] : List (ByteArray × Int × ByteArray)))) <|
      sbind (impl_ValidLinks list) fun r1 =>
      sif (!r1) (some (false, ([] : List (ByteArray × Int × ByteArray)))) <|
      sbind (impl_NameHeap_usedSlots h) fun r2 =>
      sif ((r2 != (list.length : Int))) (some (false, ([] : List (ByteArray × Int × ByteArray)))) (some (true, list))) := seml_eq (f := 30) (m := 0) (l := 5) (by kernel_rfl)
theorem impl_ValidHeap_eq (h_Names : List ByteArray) :
    impl_ValidHeap h_Names = (
      sif (decide ((h_Names.length : Int) ≤ 30))
       (sif (((h_Names.length : Int) == 0))
         (sbind (slices_ContainsFunc_sstring_string_d_ValidHeap_1 h_Names) fun r1 =>
          some !r1) <|
        sbind (idx h_Names (wi64 ((h_Names.length : Int) - 1))) fun x1 =>
        sif (!seq x1 (bs []))
         (sbind (slices_ContainsFunc_sstring_string_d_ValidHeap_1 h_Names) fun r2 =>
          some !r2) (some false)) (some false)) := sem_eq (f := 70) (m := 0) rfl (by kernel_rfl)
theorem slices_ContainsFunc_sstring_string_d_ValidHeap_1_eq (s : List ByteArray) :
    slices_ContainsFunc_sstring_string_d_ValidHeap_1 s = (
      sbind (slices_IndexFunc_sstring_string_d_ValidHeap_1 s) fun r1 =>
      some (decide (r1 ≥ 0))) := sem_eq (f := 101) (m := 0) rfl (by kernel_rfl)
theorem slices_IndexFunc_sstring_string_d_ValidHeap_1_eq (s : List ByteArray) :
    slices_IndexFunc_sstring_string_d_ValidHeap_1 s = (
      slices_IndexFunc_sstring_string_d_ValidHeap_1_l2 s (s.length : Int) 0) := sem_eq (f := 124) (m := 0) rfl (by kernel_rfl)
theorem slices_IndexFunc_sstring_string_d_ValidHeap_1_l2_eq (s : List ByteArray) (t7 : Int) (t8 : Int) :
    slices_IndexFunc_sstring_string_d_ValidHeap_1_l2 s t7 t8 = (
      sif (decide (t8 < t7))
       (sbind (idx s t8) fun x1 =>
        sbind (impl_ValidHeap_1 x1) fun r2 =>
        sif (r2) (some t8) <|
        slices_IndexFunc_sstring_string_d_ValidHeap_1_l2 s t7 (wi64 (t8 + 1))) (some (-1))) := seml_eq (f := 124) (m := 0) (l := 2) (by kernel_rfl)
theorem impl_ValidHeap_1_eq (s : ByteArray) :
    impl_ValidHeap_1 s = (
      sif (!seq s (bs []))
       (sbind (impl_IsName s) fun r1 =>
        some !r1) (some false)) := sem_eq (f := 102) (m := 0) rfl (by kernel_rfl)
theorem impl_IsName_eq (s : ByteArray) :
    impl_IsName s = (
      impl_IsName_l2 s (s.size : Int) 0) := sem_eq (f := 103) (m := 0) rfl (by kernel_rfl)
theorem impl_IsName_l2_eq (s : ByteArray) (t7 : Int) (t8 : Int) :
    impl_IsName_l2 s t7 t8 = (
      sif (decide (t8 < t7))
       (sbind (bidx s t8) fun b1 =>
        sif (decide (b1 ≥ 65))
         (sif (decide (b1 ≤ 90)) (impl_IsName_l6 s t8 b1 true t7 t8) <|
          sif (decide (b1 ≥ 97)) (impl_IsName_l6 s t8 b1 (decide (b1 ≤ 122)) t7 t8) (impl_IsName_l6 s t8 b1 false t7 t8)) <|
        sif (decide (b1 ≥ 97)) (impl_IsName_l6 s t8 b1 (decide (b1 ≤ 122)) t7 t8) (impl_IsName_l6 s t8 b1 false t7 t8)) <|
      sif (decide ((s.size : Int) ≥ 1)) (some (decide ((s.size : Int) ≤ 12))) (some false)) := seml_eq (f := 103) (m := 0) (l := 2) (by kernel_rfl)
theorem impl_IsName_l6_eq (s : ByteArray) (i : Int) (c : Int) (letter : Bool) (t7 : Int) (t8 : Int) :
    impl_IsName_l6 s i c letter t7 t8 = (
      sif (!letter)
       (sif ((i == 0)) (some false) <|
        sif (decide (c < 48)) (sif ((c != 95)) (some false) (impl_IsName_l2 s t7 (wi64 (t8 + 1)))) <|
        sif (decide (c > 57)) (sif ((c != 95)) (some false) (impl_IsName_l2 s t7 (wi64 (t8 + 1)))) (impl_IsName_l2 s t7 (wi64 (t8 + 1)))) (impl_IsName_l2 s t7 (wi64 (t8 + 1)))) := seml_eq (f := 103) (m := 0) (l := 6) (by kernel_rfl)
theorem impl_decoder_link_wd_eq (h_Names : List ByteArray) (d_rest : ByteArray) (d_bad : Bool) :
    impl_decoder_link_wd h_Names d_rest d_bad = (
      sbind (impl_decoder_byte_w d_rest d_bad) fun r1 =>
      sbind (impl_decoder_byte_w r1.2.1 r1.2.2) fun r2 =>
      sif (r2.2.2) (some (bs [], 0, bs [], r2.2.1, true)) <|
      sbind (impl_NameHeap_used h_Names r1.1) fun r3 =>
      sif (!r3) (some (bs [], 0, bs [], r2.2.1, true)) <|
      sbind (idx h_Names r1.1) fun x4 =>
      sif ((r2.1 == 0))
       (sbind (impl_decoder_number_w 2 r2.2.1 r2.2.2) fun r5 =>
        some (x4, r5.1, bs [], r5.2.1, r5.2.2)) <|
      sbind (impl_decoder_take_w r2.1 r2.2.1 r2.2.2) fun r5 =>
      some (x4, 0, r5.1, r5.2.1, r5.2.2)) := sem_eq (f := 71) (m := 0) rfl (by kernel_rfl)
theorem impl_decoder_byte_w_eq (d_rest : ByteArray) (d_bad : Bool) :
    impl_decoder_byte_w d_rest d_bad = (
      sbind (impl_decoder_number_w 1 d_rest d_bad) fun r1 =>
      some (r1.1, r1.2.1, r1.2.2)) := sem_eq (f := 104) (m := 0) rfl (by kernel_rfl)
theorem impl_decoder_number_w_eq (size : Int) (d_rest : ByteArray) (d_bad : Bool) :
    impl_decoder_number_w size d_rest d_bad = (
      sbind (impl_decoder_take_w size d_rest d_bad) fun r1 =>
      sbind (impl_getBits r1.1) fun r2 =>
      some (wi64 r2, r1.2.1, r1.2.2)) := sem_eq (f := 106) (m := 0) rfl (by kernel_rfl)
theorem impl_decoder_take_w_eq (n : Int) (d_rest : ByteArray) (d_bad : Bool) :
    impl_decoder_take_w n d_rest d_bad = (
      sbind (impl_cut d_rest 0 n) fun r1 =>
      sif (!r1.2) (some (bs [], d_rest, true)) <|
      sif (le3 0 n (d_rest.size : Int)) (some (r1.1, d_rest.extract n.toNat d_rest.size, d_bad)) (none)) := sem_eq (f := 107) (m := 0) rfl (by kernel_rfl)
theorem impl_cut_eq (s : ByteArray) (at_ : Int) (size : Int) :
    impl_cut s at_ size = (
      sif (decide (size < 0)) (some (bs [], false)) <|
      sbind (impl_within at_ 0 (wi64 ((s.size : Int) - size))) fun r1 =>
      sif (!r1) (some (bs [], false)) <|
      sif (le3 0 (wi64 (at_ + size)) (s.size : Int))
       (sif (le3 0 at_ (wi64 (at_ + size))) (some (s.extract at_.toNat ((wi64 (at_ + size)).toNat), true)) (none)) (none)) := sem_eq (f := 127) (m := 0) rfl (by kernel_rfl)
theorem impl_within_eq (n : Int) (low : Int) (high : Int) :
    impl_within n low high = (
      sif (decide (n ≥ low)) (some (decide (n ≤ high))) (some false)) := sem_eq (f := 42) (m := 0) rfl (by kernel_rfl)
theorem impl_getBits_eq (s : ByteArray) :
    impl_getBits s = (
      impl_getBits_l3 s 0 (s.size : Int) 0) := sem_eq (f := 126) (m := 0) rfl (by kernel_rfl)
theorem impl_getBits_l3_eq (s : ByteArray) (n : Int) (t6 : Int) (t7 : Int) :
    impl_getBits_l3 s n t6 t7 = (
      sif (decide (t7 < t6))
       (sbind (bidx s t7) fun b1 =>
        sif (decide (wi64 (8 * t7) < 0)) (none) <|
        impl_getBits_l3 s (bits .or .u64 n (wu64 ((wu64 b1) * 2 ^ (min (wi64 (8 * t7)).toNat 64)))) t6 (wi64 (t7 + 1))) (some n)) := seml_eq (f := 126) (m := 0) (l := 3) (by kernel_rfl)
theorem impl_NameHeap_used_eq (h_Names : List ByteArray) (k : Int) :
    impl_NameHeap_used h_Names k = (
      sbind (impl_isIndex k (h_Names.length : Int)) fun r1 =>
      sif (r1)
       (sbind (idx h_Names k) fun x2 =>
        some (!seq x2 (bs []))) (some false)) := sem_eq (f := 105) (m := 0) rfl (by kernel_rfl)
theorem impl_isIndex_eq (i : Int) (many : Int) :
    impl_isIndex i many = (
      sbind (impl_within i 0 (wi64 (many - 1))) fun r1 =>
      some r1) := sem_eq (f := 125) (m := 0) rfl (by kernel_rfl)
theorem impl_ValidLinks_eq (list : List (ByteArray × Int × ByteArray)) :
    impl_ValidLinks list = (
      impl_ValidLinks_l2 list list (list.length : Int) 0) := sem_eq (f := 72) (m := 0) rfl (by kernel_rfl)
theorem impl_ValidLinks_l2_eq (list : List (ByteArray × Int × ByteArray)) (t5 : List (ByteArray × Int × ByteArray)) (t6 : Int) (t7 : Int) :
    impl_ValidLinks_l2 list t5 t6 t7 = (
      sif (decide (t7 < t6))
       (sbind (idx t5 t7) fun x1 =>
        sbind (impl_linkOk x1.1 x1.2.1 x1.2.2) fun r2 =>
        sif (!r2) (some false) <|
        sif (decide (t7 > 0))
         (sbind (idx list (wi64 (t7 - 1))) fun x3 =>
          sif (slt x1.1 x3.1 || seq x1.1 x3.1) (some false) (impl_ValidLinks_l2 list t5 t6 (wi64 (t7 + 1)))) (impl_ValidLinks_l2 list t5 t6 (wi64 (t7 + 1)))) (some (decide ((list.length : Int) ≤ 12)))) := seml_eq (f := 72) (m := 0) (l := 2) (by kernel_rfl)
theorem impl_linkOk_eq (l_Name : ByteArray) (l_Target : Int) (l_Path : ByteArray) :
    impl_linkOk l_Name l_Target l_Path = (
      sbind (impl_IsName l_Name) fun r1 =>
      sif (!r1) (some false) <|
      sif (seq l_Path (bs []))
       (sbind (impl_within l_Target 1 255) fun r2 =>
        some r2) <|
      sif ((l_Target == 0))
       (sbind (impl_ValidPath l_Path) fun r2 =>
        some r2) (some false)) := sem_eq (f := 108) (m := 0) rfl (by kernel_rfl)
theorem impl_ValidPath_eq (s : ByteArray) :
    impl_ValidPath s = (
      sbind (impl_splitPath s) fun r1 =>
      some r1.2) := sem_eq (f := 128) (m := 0) rfl (by kernel_rfl)
theorem impl_splitPath_eq (s : ByteArray) :
    impl_splitPath s = (
      sif (seq s (bs [47])) (some (([] : List ByteArray), true)) <|
      sbind (strings_CutPrefix s (bs [47])) fun r1 =>
      sbind (strings_Split r1.1 (bs [47])) fun r2 =>
      sif (!r1.2) (some (([] : List ByteArray), false)) <|
      sif (decide ((r2.length : Int) > 6)) (some (([] : List ByteArray), false)) <|
      sbind (slices_ContainsFunc_sstring_string_d_splitPath_1 r2) fun r3 =>
      sif (r3) (some (([] : List ByteArray), false)) (some (r2, true))) := sem_eq (f := 139) (m := 0) rfl (by kernel_rfl)
theorem strings_CutPrefix_eq (x0 : ByteArray) (x1 : ByteArray) : strings_CutPrefix x0 x1 = some (cutPre x0 x1) := ext_eq (E := E) (f := 156) (m := 0) (g := fun (d : ByteArray × ByteArray) => (some (cutPre (d.1) (d.2)) : Option (ByteArray × Bool))) (by kernel_rfl) (x0, x1)
theorem strings_Split_eq (x0 : ByteArray) (x1 : ByteArray) : strings_Split x0 x1 = splitI x0 x1 := ext_eq (E := E) (f := 157) (m := 0) (g := fun (d : ByteArray × ByteArray) => (splitI (d.1) (d.2) : Option (List ByteArray))) (by kernel_rfl) (x0, x1)
theorem slices_ContainsFunc_sstring_string_d_splitPath_1_eq (s : List ByteArray) :
    slices_ContainsFunc_sstring_string_d_splitPath_1 s = (
      sbind (slices_IndexFunc_sstring_string_d_splitPath_1 s) fun r1 =>
      some (decide (r1 ≥ 0))) := sem_eq (f := 101) (m := 1) rfl (by kernel_rfl)
theorem slices_IndexFunc_sstring_string_d_splitPath_1_eq (s : List ByteArray) :
    slices_IndexFunc_sstring_string_d_splitPath_1 s = (
      slices_IndexFunc_sstring_string_d_splitPath_1_l2 s (s.length : Int) 0) := sem_eq (f := 124) (m := 1) rfl (by kernel_rfl)
theorem slices_IndexFunc_sstring_string_d_splitPath_1_l2_eq (s : List ByteArray) (t7 : Int) (t8 : Int) :
    slices_IndexFunc_sstring_string_d_splitPath_1_l2 s t7 t8 = (
      sif (decide (t8 < t7))
       (sbind (idx s t8) fun x1 =>
        sbind (impl_splitPath_1 x1) fun r2 =>
        sif (r2) (some t8) <|
        slices_IndexFunc_sstring_string_d_splitPath_1_l2 s t7 (wi64 (t8 + 1))) (some (-1))) := seml_eq (f := 124) (m := 1) (l := 2) (by kernel_rfl)
theorem impl_splitPath_1_eq (n : ByteArray) :
    impl_splitPath_1 n = (
      sbind (impl_IsName n) fun r1 =>
      some !r1) := sem_eq (f := 158) (m := 0) rfl (by kernel_rfl)
theorem impl_NameHeap_usedSlots_eq (h_Names : List ByteArray) :
    impl_NameHeap_usedSlots h_Names = (
      sbind (slices_Clone_sstring_string h_Names) fun r1 =>
      sbind (slices_DeleteFunc_sstring_string_v_NameHeap_usedSlots_1 r1) fun r2 =>
      some (r2.length : Int)) := sem_eq (f := 73) (m := 0) rfl (by kernel_rfl)
theorem slices_Clone_sstring_string_eq (s : List ByteArray) :
    slices_Clone_sstring_string s = (
      sif (s.isEmpty) (sboth (some ([] : List ByteArray)) (sif (room (0 + s.length) 16) (some s) (none))) (sif (room (0 + s.length) 16) (some s) (none))) := sem_eq (f := 110) (m := 0) rfl (by kernel_rfl)
theorem slices_DeleteFunc_sstring_string_v_NameHeap_usedSlots_1_eq (s : List ByteArray) :
    slices_DeleteFunc_sstring_string_v_NameHeap_usedSlots_1 s = (
      sbind (slices_IndexFunc_sstring_string_d_NameHeap_usedSlots_1 s) fun r1 =>
      sif ((r1 == (-1))) (some s) <|
      slices_DeleteFunc_sstring_string_v_NameHeap_usedSlots_1_l5 r1 (wi64 (r1 + 1)) s) := sem_eq (f := 109) (m := 0) rfl (by kernel_rfl)
theorem slices_DeleteFunc_sstring_string_v_NameHeap_usedSlots_1_l5_eq (i : Int) (j : Int) (s : List ByteArray) :
    slices_DeleteFunc_sstring_string_v_NameHeap_usedSlots_1_l5 i j s = (
      sif (decide (j < (s.length : Int)))
       (sif (lt3 0 j (s.length : Int))
         (sbind (s[j.toNat]?) fun x1 =>
          sbind (impl_NameHeap_usedSlots_1 x1) fun r2 =>
          sif (!r2)
           (sif (lt3 0 i (s.length : Int))
             (slices_DeleteFunc_sstring_string_v_NameHeap_usedSlots_1_l5 (wi64 (i + 1)) (wi64 (j + 1)) (s.set i.toNat x1)) (none)) <|
          slices_DeleteFunc_sstring_string_v_NameHeap_usedSlots_1_l5 i (wi64 (j + 1)) s) (none)) <|
      sif (le3 0 i (s.length : Int))
       (sif (le3 0 i ((s.take i.toNat ++ ((List.replicate (s.length - i.toNat) (bs [] : ByteArray)) ++ s.drop (i.toNat + (List.replicate (s.length - i.toNat) (bs [] : ByteArray)).length))).length : Int))
         (some (((s.take i.toNat ++ ((List.replicate (s.length - i.toNat) (bs [] : ByteArray)) ++ s.drop (i.toNat + (List.replicate (s.length - i.toNat) (bs [] : ByteArray)).length))).take i.toNat).drop 0)) (none)) (none)) := seml_eq (f := 109) (m := 0) (l := 5) (by kernel_rfl)
theorem slices_IndexFunc_sstring_string_d_NameHeap_usedSlots_1_eq (s : List ByteArray) :
    slices_IndexFunc_sstring_string_d_NameHeap_usedSlots_1 s = (
      slices_IndexFunc_sstring_string_d_NameHeap_usedSlots_1_l2 s (s.length : Int) 0) := sem_eq (f := 124) (m := 2) rfl (by kernel_rfl)
theorem slices_IndexFunc_sstring_string_d_NameHeap_usedSlots_1_l2_eq (s : List ByteArray) (t7 : Int) (t8 : Int) :
    slices_IndexFunc_sstring_string_d_NameHeap_usedSlots_1_l2 s t7 t8 = (
      sif (decide (t8 < t7))
       (sbind (idx s t8) fun x1 =>
        sbind (impl_NameHeap_usedSlots_1 x1) fun r2 =>
        sif (r2) (some t8) <|
        slices_IndexFunc_sstring_string_d_NameHeap_usedSlots_1_l2 s t7 (wi64 (t8 + 1))) (some (-1))) := seml_eq (f := 124) (m := 2) (l := 2) (by kernel_rfl)
theorem impl_NameHeap_usedSlots_1_eq (s : ByteArray) :
    impl_NameHeap_usedSlots_1 s = (
      some (seq s (bs []))) := sem_eq (f := 111) (m := 0) rfl (by kernel_rfl)
theorem laws_eqLinkS_eq (a : List (ByteArray × Int × ByteArray)) (b : List (ByteArray × Int × ByteArray)) :
    laws_eqLinkS a b = (
      sif (((a.length : Int) != (b.length : Int))) (some false) (laws_eqLinkS_l4 a b 0)) := sem_eq (f := 31) (m := 0) rfl (by kernel_rfl)
theorem laws_eqLinkS_l4_eq (a : List (ByteArray × Int × ByteArray)) (b : List (ByteArray × Int × ByteArray)) (i : Int) :
    laws_eqLinkS_l4 a b i = (
      sif (decide (i < (a.length : Int)))
       (sbind (idx a i) fun x1 =>
        sbind (idx b i) fun x2 =>
        sbind (laws_eqLink x1.1 x1.2.1 x1.2.2 x2.1 x2.2.1 x2.2.2) fun r3 =>
        sif (!r3) (some false) (laws_eqLinkS_l4 a b (wi64 (i + 1)))) (some true)) := seml_eq (f := 31) (m := 0) (l := 4) (by kernel_rfl)
theorem laws_eqLink_eq (a_Name : ByteArray) (a_Target : Int) (a_Path : ByteArray) (b_Name : ByteArray) (b_Target : Int) (b_Path : ByteArray) :
    laws_eqLink a_Name a_Target a_Path b_Name b_Target b_Path = (
      sif (!seq a_Name b_Name) (some false) <|
      sif ((a_Target != b_Target)) (some false) (sif (!seq a_Path b_Path) (some false) (some true))) := sem_eq (f := 74) (m := 0) rfl (by kernel_rfl)
theorem laws_eqNameHeap_eq (a_Names : List ByteArray) (b_Names : List ByteArray) :
    laws_eqNameHeap a_Names b_Names = (
      sbind (laws_eqStringS a_Names b_Names) fun r1 =>
      sif (!r1) (some false) (some true)) := sem_eq (f := 32) (m := 0) rfl (by kernel_rfl)
theorem laws_eqStringS_eq (a : List ByteArray) (b : List ByteArray) :
    laws_eqStringS a b = (
      sif (((a.length : Int) != (b.length : Int))) (some false) (laws_eqStringS_l4 a b 0)) := sem_eq (f := 75) (m := 0) rfl (by kernel_rfl)
theorem laws_eqStringS_l4_eq (a : List ByteArray) (b : List ByteArray) (i : Int) :
    laws_eqStringS_l4 a b i = (
      sif (decide (i < (a.length : Int)))
       (sbind (idx a i) fun x1 =>
        sbind (idx b i) fun x2 =>
        sif (!seq x1 x2) (some false) (laws_eqStringS_l4 a b (wi64 (i + 1)))) (some true)) := seml_eq (f := 75) (m := 0) (l := 4) (by kernel_rfl)
theorem laws_markNameHeap_v_eq (k : Int) (a_Names : List ByteArray) :
    laws_markNameHeap_v k a_Names = (
      sbind (laws_markStringS_v k a_Names) fun r1 =>
      some (r1.1, r1.2)) := sem_eq (f := 33) (m := 0) rfl (by kernel_rfl)
theorem laws_markStringS_v_eq (k : Int) (a : List ByteArray) :
    laws_markStringS_v k a = (
      laws_markStringS_v_l2 k 0 a) := sem_eq (f := 76) (m := 0) rfl (by kernel_rfl)
theorem laws_markStringS_v_l2_eq (k : Int) (i : Int) (a : List ByteArray) :
    laws_markStringS_v_l2 k i a = (
      sif (decide (i < (a.length : Int)))
       (sbind (laws_markText k) fun r1 =>
        sif (lt3 0 i (a.length : Int)) (laws_markStringS_v_l2 (wi64 (k + 1)) (wi64 (i + 1)) (a.set i.toNat r1)) (none)) (some (k, a))) := seml_eq (f := 76) (m := 0) (l := 2) (by kernel_rfl)
theorem laws_markText_eq (k : Int) :
    laws_markText k = (
      sif (decide (k ≤ 0)) (some (bs [109, 48])) (laws_markText_l4 k (bs []))) := sem_eq (f := 77) (m := 0) rfl (by kernel_rfl)
theorem laws_markText_l4_eq (k : Int) (out : ByteArray) :
    laws_markText_l4 k out = (
      sif (decide (k > 0))
       (sif (joins (toB [wu8 (wi64 (48 + (Int.tmod k 10)))]) out)
         (laws_markText_l4 (wi64 (Int.tdiv k 10)) ((toB [wu8 (wi64 (48 + (Int.tmod k 10)))]) ++ out)) (none)) <|
      sif (joins (bs [109]) out) (some ((bs [109]) ++ out)) (none)) := seml_eq (f := 77) (m := 0) (l := 4) (by kernel_rfl)
theorem laws_markLinkS_v_eq (k : Int) (a : List (ByteArray × Int × ByteArray)) :
    laws_markLinkS_v k a = (
      laws_markLinkS_v_l2 k 0 a) := sem_eq (f := 34) (m := 0) rfl (by kernel_rfl)
theorem laws_markLinkS_v_l2_eq (k : Int) (i : Int) (a : List (ByteArray × Int × ByteArray)) :
    laws_markLinkS_v_l2 k i a = (
      sif (decide (i < (a.length : Int)))
       (sbind (laws_markText k) fun r1 =>
        sif (lt3 0 i (a.length : Int))
         (sbind (a[i.toNat]?) fun x2 =>
          sif (lt3 0 i ((a.set i.toNat (r1, x2.2.1, x2.2.2)).length : Int))
           (sbind ((a.set i.toNat (r1, x2.2.1, x2.2.2))[i.toNat]?) fun x3 =>
            sbind (laws_markText (wi64 ((wi64 (k + 1)) + 1))) fun r4 =>
            sif (lt3 0 i (((a.set i.toNat (r1, x2.2.1, x2.2.2)).set i.toNat (x3.1, wi64 (k + 1), x3.2.2)).length : Int))
             (sbind (((a.set i.toNat (r1, x2.2.1, x2.2.2)).set i.toNat (x3.1, wi64 (k + 1), x3.2.2))[i.toNat]?) fun x5 =>
              laws_markLinkS_v_l2 (wi64 ((wi64 ((wi64 (k + 1)) + 1)) + 1)) (wi64 (i + 1)) (((a.set i.toNat (r1, x2.2.1, x2.2.2)).set i.toNat (x3.1, wi64 (k + 1), x3.2.2)).set i.toNat (x5.1, x5.2.1, r4))) (none)) (none)) (none)) (some (k, a))) := seml_eq (f := 34) (m := 0) (l := 2) (by kernel_rfl)
theorem laws_heldLinkS_eq (a : List (ByteArray × Int × ByteArray)) (k : Int) :
    laws_heldLinkS a k = (
      laws_heldLinkS_l2 a k 0) := sem_eq (f := 35) (m := 0) rfl (by kernel_rfl)
theorem laws_heldLinkS_l2_eq (a : List (ByteArray × Int × ByteArray)) (k : Int) (i : Int) :
    laws_heldLinkS_l2 a k i = (
      sif (decide (i < (a.length : Int)))
       (sbind (idx a i) fun x1 =>
        sbind (laws_markText k) fun r2 =>
        sif (!seq x1.1 r2) (some (-1)) <|
        sbind (idx a i) fun x3 =>
        sif ((x3.2.1 != (wi64 (k + 1)))) (some (-1)) <|
        sbind (idx a i) fun x4 =>
        sbind (laws_markText (wi64 ((wi64 (k + 1)) + 1))) fun r5 =>
        sif (!seq x4.2.2 r5) (some (-1)) <|
        laws_heldLinkS_l2 a (wi64 ((wi64 ((wi64 (k + 1)) + 1)) + 1)) (wi64 (i + 1))) (some k)) := seml_eq (f := 35) (m := 0) (l := 2) (by kernel_rfl)
end Go.Ve.X
