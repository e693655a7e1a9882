/- What 'FnExactReadBlock' comes to, in plain words over numbers, texts and lists: each function that it reaches answers what is told; put together, the law answers true. No condition but the sizes that come in. -/
import Derived.Test.YtkfcmjdooldonaaEqFnExactReadBlock
namespace Go.Ve.X
open Go.Ve
set_option linter.all false
set_option maxRecDepth 100000
def bulk_Put (x : Int × ByteArray) : Nat := x.2.size
theorem szStringS_some (a : List ByteArray) (left : Int) (hs : smL (fun x => x.size ≤ 140737488355328) a) (h0 : 0 ≤ left) (h1 : left ≤ 1048576) : laws_szStringS a left = some (if ((bulkL ByteArray.size a : Nat) : Int) ≤ left then left - ((bulkL ByteArray.size a : Nat) : Int) else -1) := by
  have hl := hs.1
  have key := fun (h0 : 0 ≤ left - (a.length : Int)) => sz_loop a ByteArray.size (fun left i => laws_szStringS_l5 a left i) (fun left => by rw [laws_szStringS_l5_eq, sif_f (by omega)]) (fun i x left hx hi h0 h1 => by
    have hx' : x.size ≤ 140737488355328 := hs.2 x (mem_of_at hx)
    rw [laws_szStringS_l5_eq, sif_t (by omega), idx_some hx, sbind_some, wi64_id (by omega) (by omega), wi64_add1 (by omega)]
    by_cases c : (x.size : Int) ≤ left
    · rw [if_pos c, sif_f (by omega)]
    · rw [if_neg c, sif_t (by omega)]) (left - (a.length : Int)) h0 (by omega)
  rw [laws_szStringS_eq, wi64_id (by omega) (by omega)]
  by_cases c : (a.length : Int) ≤ left
  · rw [sif_f (by omega), key (by omega)]
    unfold bulkL
    by_cases c2 : (((a.map ByteArray.size).sum : Nat) : Int) ≤ left - a.length
    · rw [if_pos c2, if_pos (by omega)]; congr 1; omega
    · rw [if_neg c2, if_neg (by omega)]
  · rw [sif_t (by omega), if_neg (by have := bulk_len ByteArray.size a; omega)]
def sm_Put (x : Int × ByteArray) : Prop := x.2.size ≤ 140737488355328
theorem szPut_some (x : Int × ByteArray) (left : Int) (hs : sm_Put x) (h0 : 0 ≤ left) (h1 : left ≤ 1048576) : laws_szPut x.1 x.2 left = some (if ((bulk_Put x : Nat) : Int) ≤ left then left - ((bulk_Put x : Nat) : Int) else -1) := by
  have hb : ((bulk_Put x : Nat) : Int) = ((x.2.size : Nat) : Int) := by unfold bulk_Put; omega
  unfold sm_Put at hs
  have s0 := hs
  rw [laws_szPut_eq]
  rw [wi64_id (by omega) (by omega)]
  by_cases c0 : ((x.2.size : Nat) : Int) ≤ left
  · rw [sif_f (by omega)]
    rw [if_pos (by omega)]; exact congrArg some (by omega)
  · rw [sif_t (by omega), if_neg (by omega)]
theorem szPutS_some (a : List (Int × ByteArray)) (left : Int) (hs : smL sm_Put a) (h0 : 0 ≤ left) (h1 : left ≤ 1048576) : laws_szPutS a left = some (if ((bulkL bulk_Put a : Nat) : Int) ≤ left then left - ((bulkL bulk_Put a : Nat) : Int) else -1) := by
  have hl := hs.1
  have key := fun (h0 : 0 ≤ left - (a.length : Int)) => sz_loop a bulk_Put (fun left i => laws_szPutS_l5 a left i) (fun left => by rw [laws_szPutS_l5_eq, sif_f (by omega)]) (fun i x left hx hi h0 h1 => by
    have hb : laws_szPutS_l5 a left (i : Int) = sbind (laws_szPut x.1 x.2 left) (fun r => sif (decide (r < 0)) (some (-1)) (laws_szPutS_l5 a r (wi64 ((i : Int) + 1)))) := by rw [laws_szPutS_l5_eq, sif_t (by omega), idx_some hx, sbind_some]
    rw [hb, szPut_some x left (hs.2 x (mem_of_at hx)) h0 h1, sbind_some, wi64_add1 (by omega)]
    by_cases c : ((bulk_Put x : Nat) : Int) ≤ left
    · rw [if_pos c, if_pos c, sif_f (by omega)]
    · rw [if_neg c, if_neg c, sif_t (by omega)]) (left - (a.length : Int)) h0 (by omega)
  rw [laws_szPutS_eq, wi64_id (by omega) (by omega)]
  by_cases c : (a.length : Int) ≤ left
  · rw [sif_f (by omega), key (by omega)]
    unfold bulkL
    by_cases c2 : (((a.map bulk_Put).sum : Nat) : Int) ≤ left - a.length
    · rw [if_pos c2, if_pos (by omega)]; congr 1; omega
    · rw [if_neg c2, if_neg (by omega)]
  · rw [sif_t (by omega), if_neg (by have := bulk_len bulk_Put a; omega)]
def bulk_Disk (x : List ByteArray × List (Int × ByteArray) × Int × Bool) : Nat := (bulkL ByteArray.size x.1) + (bulkL bulk_Put x.2.1)
def sm_Disk (x : List ByteArray × List (Int × ByteArray) × Int × Bool) : Prop := (smL (fun x => x.size ≤ 140737488355328) x.1) ∧ (smL sm_Put x.2.1)
theorem szDisk_some (x : List ByteArray × List (Int × ByteArray) × Int × Bool) (left : Int) (hs : sm_Disk x) (h0 : 0 ≤ left) (h1 : left ≤ 1048576) : laws_szDisk x.1 x.2.1 x.2.2.1 x.2.2.2 left = some (if ((bulk_Disk x : Nat) : Int) ≤ left then left - ((bulk_Disk x : Nat) : Int) else -1) := by
  have hb : ((bulk_Disk x : Nat) : Int) = ((bulkL ByteArray.size x.1 : Nat) : Int) + ((bulkL bulk_Put x.2.1 : Nat) : Int) := by unfold bulk_Disk; omega
  unfold sm_Disk at hs
  obtain ⟨s0, s1⟩ := hs
  rw [laws_szDisk_eq]
  rw [szStringS_some x.1 (left) s0 (by omega) (by omega), sbind_some]
  by_cases c0 : ((bulkL ByteArray.size x.1 : Nat) : Int) ≤ left
  · rw [if_pos c0, sif_f (by omega)]
    rw [szPutS_some x.2.1 (left - ((bulkL ByteArray.size x.1 : Nat) : Int)) s1 (by omega) (by omega), sbind_some]
    by_cases c1 : ((bulkL bulk_Put x.2.1 : Nat) : Int) ≤ left - ((bulkL ByteArray.size x.1 : Nat) : Int)
    · rw [if_pos c1, sif_f (by omega)]
      rw [if_pos (by omega)]; exact congrArg some (by omega)
    · rw [if_neg c1, sif_t (by omega), if_neg (by omega)]
  · rw [if_neg c0, sif_t (by omega), if_neg (by omega)]
theorem toStringS_some (a : List ByteArray) (hb : bulkL ByteArray.size a ≤ 1048576) : laws_toStringS a = some a := by
  have hl : a.length ≤ 1048576 := Nat.le_trans (bulk_len ByteArray.size a) hb
  have key := loop_fill a id (fun i out => laws_toStringS_l3 a i out) id (fun out ho => by rw [laws_toStringS_l3_eq, sif_f (by omega)]; rfl) (fun i x out hx hi ho => by
    rw [laws_toStringS_l3_eq, sif_t (by omega), idx_some hx, sbind_some, sif_pos (lt3_ok (by omega) (by omega)), wi64_add1 (by omega)]
    rfl) (List.replicate a.length (bs [])) (by simp)
  rw [laws_toStringS_eq, sif_pos (by rw [le3_ok (by omega) (by omega), room_ok (by omega)]; rfl)]
  simpa using key
theorem toPut_some (x : Int × ByteArray) (hb : bulk_Put x ≤ 1048576) : laws_toPut x.1 x.2 = some (x.1, x.2) := by
  unfold bulk_Put at hb
  rw [laws_toPut_eq]
theorem toPutS_some (a : List (Int × ByteArray)) (hb : bulkL bulk_Put a ≤ 1048576) : laws_toPutS a = some a := by
  have hl : a.length ≤ 1048576 := Nat.le_trans (bulk_len bulk_Put a) hb
  have key := loop_fill a id (fun i out => laws_toPutS_l3 a i out) id (fun out ho => by rw [laws_toPutS_l3_eq, sif_f (by omega)]; rfl) (fun i x out hx hi ho => by
    rw [laws_toPutS_l3_eq, sif_t (by omega), idx_some hx, sbind_some, toPut_some x (Nat.le_trans (bulk_mem (mem_of_at hx)) hb), sbind_some, sif_pos (lt3_ok (by omega) (by omega)), wi64_add1 (by omega)]
    rfl) (List.replicate a.length ((0, (bs [])) : Int × ByteArray)) (by simp)
  rw [laws_toPutS_eq, sif_pos (by rw [le3_ok (by omega) (by omega), room_ok (by omega)]; rfl)]
  simpa using key
theorem toDisk_some (x : List ByteArray × List (Int × ByteArray) × Int × Bool) (hb : bulk_Disk x ≤ 1048576) : laws_toDisk x.1 x.2.1 x.2.2.1 x.2.2.2 = some (x.2.2.1, x.2.2.2, x.1, x.2.1) := by
  unfold bulk_Disk at hb
  rw [laws_toDisk_eq, toStringS_some x.1 (by omega), sbind_some, toPutS_some x.2.1 (by omega), sbind_some]
theorem eqStringS_refl (a : List ByteArray) (hb : bulkL ByteArray.size a ≤ 1048576) : laws_eqStringS a a = some true := by
  have hl : a.length ≤ 1048576 := Nat.le_trans (bulk_len ByteArray.size a) hb
  have key := loop_all a (fun i => laws_eqStringS_l4 a a (i : Int)) (some true) (by rw [laws_eqStringS_l4_eq, sif_f (by omega)]) (fun i x hx hi => by
    rw [laws_eqStringS_l4_eq, sif_t (by omega), idx_some hx, sbind_some, sbind_some, seq_self, Bool.not_true, sif_false, wi64_add1 (by omega)])
  rw [laws_eqStringS_eq, bne_self_eq_false, sif_false]
  exact key
theorem eqPut_refl (x : Int × ByteArray) (hb : bulk_Put x ≤ 1048576) : laws_eqPut x.1 x.2 x.1 x.2 = some true := by
  unfold bulk_Put at hb
  rw [laws_eqPut_eq]
  simp only [seq_self, bne_self_eq_false, beq_self_eq_true, Bool.not_true, Bool.not_false, sif_false, sif_true]
theorem eqPutS_refl (a : List (Int × ByteArray)) (hb : bulkL bulk_Put a ≤ 1048576) : laws_eqPutS a a = some true := by
  have hl : a.length ≤ 1048576 := Nat.le_trans (bulk_len bulk_Put a) hb
  have key := loop_all a (fun i => laws_eqPutS_l4 a a (i : Int)) (some true) (by rw [laws_eqPutS_l4_eq, sif_f (by omega)]) (fun i x hx hi => by
    rw [laws_eqPutS_l4_eq, sif_t (by omega), idx_some hx, sbind_some, sbind_some, eqPut_refl x (Nat.le_trans (bulk_mem (mem_of_at hx)) hb), sbind_some, Bool.not_true, sif_false, wi64_add1 (by omega)])
  rw [laws_eqPutS_eq, bne_self_eq_false, sif_false]
  exact key
theorem eqDisk_refl (x : List ByteArray × List (Int × ByteArray) × Int × Bool) (hb : bulk_Disk x ≤ 1048576) : laws_eqDisk x.1 x.2.1 x.2.2.1 x.2.2.2 x.1 x.2.1 x.2.2.1 x.2.2.2 = some true := by
  unfold bulk_Disk at hb
  rw [laws_eqDisk_eq, eqStringS_refl x.1 (by omega), sbind_some, eqPutS_refl x.2.1 (by omega), sbind_some]
  simp only [seq_self, bne_self_eq_false, beq_self_eq_true, Bool.not_true, Bool.not_false, sif_false, sif_true]
/-! within -/
theorem spec_l00In_some (n lo hi : Int) : spec_l00In n lo hi = some (inr n lo hi) := by rw [spec_l00In_eq, inr_sif]
theorem impl_within_some (n lo hi : Int) : impl_within n lo hi = some (inr n lo hi) := by rw [impl_within_eq, inr_sif]
/-! diskOk -/
def putOk (n : Int) (p : Int × ByteArray) : Bool := inr p.1 0 (n - 1) && ((p.2.size : Int) == 64)
def diskOk (B : List ByteArray) (P : List (Int × ByteArray)) (f : Int) : Bool :=
  inr B.length 16 256 && !decide ((P.length : Int) > 600) && inr f (-1) 100000 && B.all (fun b => (b.size : Int) == 64) && P.all (putOk B.length)
theorem spec_l09Ok_some (B : List ByteArray) (P : List (Int × ByteArray)) (f : Int) (o : Bool) : spec_l09Ok B P f o = some (diskOk B P f) := by
  unfold diskOk
  rw [spec_l09Ok_eq, spec_l00In_some, sbind_some]
  cases h1 : inr (B.length : Int) 16 256 with
  | false => rfl
  | true =>
    have hB := inr_iff.1 h1
    rw [Bool.not_true, sif_false]
    by_cases h2 : (P.length : Int) > 600
    · rw [sif_t h2, decide_eq_true h2]; rfl
    · rw [sif_f h2, spec_l00In_some, sbind_some, decide_eq_false h2]
      cases h3 : inr f (-1) 100000 with
      | false => rfl
      | true =>
        rw [Bool.not_true, sif_false]
        have k1 := all_loop B (fun b => (b.size : Int) == 64) (fun i => spec_l09Ok_l5 (B.length : Int) (i : Int) B P f o) false (fun i x hx hi => by
          rw [spec_l09Ok_l5_eq, sif_t (by omega), idx_some hx, sbind_some, wi64_add1 (by omega)]
          show sif (!((x.size : Int) == 64)) _ _ = _
          rw [sif_not])
        have k2 := all_loop P (putOk B.length) (fun i => spec_l09Ok_l10 (B.length : Int) (i : Int) B P f o) false (fun i x hx hi => by
          rw [spec_l09Ok_l10_eq, sif_t (by omega), idx_some hx, sbind_some, wi64_id (n := (B.length : Int) - 1) (by omega) (by omega), spec_l00In_some, sbind_some, sif_not, sbind_some, wi64_add1 (by omega)]
          unfold putOk
          show sif _ (sif (!((x.2.size : Int) == 64)) _ _) _ = _
          rw [sif_not]
          cases inr x.1 0 ((B.length : Int) - 1) <;> rfl)
        have e : spec_l09Ok_l5 (B.length : Int) (B.length : Int) B P f o = spec_l09Ok_l10 (B.length : Int) 0 B P f o := by rw [spec_l09Ok_l5_eq, sif_f (by omega)]
        have e2 : spec_l09Ok_l10 (B.length : Int) (P.length : Int) B P f o = some true := by rw [spec_l09Ok_l10_eq, sif_f (by omega)]
        refine k1.trans ?_
        rw [e]
        refine (congrArg (fun z => sif _ z _) k2).trans ?_
        rw [e2]
        cases B.all (fun b => (b.size : Int) == 64) <;> cases P.all (putOk B.length) <;> rfl
/-! implDisk -/
theorem impl_isBlock_some (b : ByteArray) : impl_isBlock b = some ((b.size : Int) == 64) := by rw [impl_isBlock_eq]
theorem impl_ValidDisk_1_some (b : ByteArray) : impl_ValidDisk_1 b = some (!((b.size : Int) == 64)) := by rw [impl_ValidDisk_1_eq, impl_isBlock_some, sbind_some]
theorem impl_isIndex_some (i n : Int) (h0 : 0 ≤ n) (h1 : n ≤ 1000000000000) : impl_isIndex i n = some (inr i 0 (n - 1)) := by
  rw [impl_isIndex_eq, wi64_id (by omega) (by omega), impl_within_some, sbind_some]
theorem impl_ValidDisk_2_some (p : Int × ByteArray) (B : List ByteArray) (P : List (Int × ByteArray)) (f : Int) (o : Bool) (h : B.length ≤ 1000000000000) : impl_ValidDisk_2 p.1 p.2 B P f o = some (!putOk B.length p) := by
  rw [impl_ValidDisk_2_eq, impl_isIndex_some _ _ (by omega) (by omega), sbind_some, impl_isBlock_some, sbind_some]
  unfold putOk
  cases inr p.1 0 ((B.length : Int) - 1) <;> rfl
theorem impl_ValidDisk_some (B : List ByteArray) (P : List (Int × ByteArray)) (f : Int) (o : Bool) : impl_ValidDisk B P f o = some (diskOk B P f) := by
  unfold diskOk
  rw [impl_ValidDisk_eq, impl_within_some, sbind_some]
  cases h1 : inr (B.length : Int) 16 256 with
  | false => rfl
  | true =>
    have hB := inr_iff.1 h1
    rw [Bool.not_true, sif_false]
    by_cases h2 : (P.length : Int) > 600
    · rw [sif_t h2, decide_eq_true h2]; rfl
    · rw [sif_f h2, impl_within_some, sbind_some, decide_eq_false h2]
      cases h3 : inr f (-1) 100000 with
      | false => rfl
      | true =>
        rw [Bool.not_true, sif_false]
        have k1 : slices_ContainsFunc_sstring_string_d_ValidDisk_1 B = some (B.any fun b => !((b.size : Int) == 64)) := by
          rw [slices_ContainsFunc_sstring_string_d_ValidDisk_1_eq, slices_IndexFunc_sstring_string_d_ValidDisk_1_eq]
          refine find_any (find_loop B _ (fun i => slices_IndexFunc_sstring_string_d_ValidDisk_1_l2 B (B.length : Int) i) (by rw [slices_IndexFunc_sstring_string_d_ValidDisk_1_l2_eq, sif_f (by omega)]) (fun i x hx hi => ?_))
          rw [slices_IndexFunc_sstring_string_d_ValidDisk_1_l2_eq, sif_t (by omega), idx_some hx, sbind_some, impl_ValidDisk_1_some, sbind_some, wi64_add1 (by omega)]
        have k2 : slices_ContainsFunc_simpl_Put_impl_Put_d_ValidDisk_2 P B P f o = some (P.any fun p => !putOk B.length p) := by
          rw [slices_ContainsFunc_simpl_Put_impl_Put_d_ValidDisk_2_eq, slices_IndexFunc_simpl_Put_impl_Put_d_ValidDisk_2_eq]
          refine find_any (find_loop P _ (fun i => slices_IndexFunc_simpl_Put_impl_Put_d_ValidDisk_2_l2 P (P.length : Int) i B P f o) (by rw [slices_IndexFunc_simpl_Put_impl_Put_d_ValidDisk_2_l2_eq, sif_f (by omega)]) (fun i x hx hi => ?_))
          rw [slices_IndexFunc_simpl_Put_impl_Put_d_ValidDisk_2_l2_eq, sif_t (by omega), idx_some hx, sbind_some, impl_ValidDisk_2_some _ _ _ _ _ (by omega), sbind_some, wi64_add1 (by omega)]
        rw [k1, sbind_some, any_not_all B (fun b => (b.size : Int) == 64) _ (fun _ _ => rfl), k2, any_not_all P (putOk B.length) _ (fun _ _ => rfl), sbind_some]
        cases B.all (fun b => (b.size : Int) == 64) <;> cases P.all (putOk B.length) <;> rfl
/-! readL -/
theorem sbind_id {α : Type} (o : Option α) : (sbind o fun x => some x) = o := by cases o <;> rfl
theorem spec_read_loop (B : List ByteArray) (P : List (Int × ByteArray)) (f : Int) (o : Bool) (k : Int) (hP : P.length ≤ 1048576) : ∀ r, r ≤ P.length → spec_l09Read_l2 k ((r : Int) - 1) B P f o = (match (P.take r).reverse.find? (fun p => p.1 == k) with | some p => some p.2 | none => idx B k) := by
  intro r
  induction r with
  | zero => intro _; rw [spec_l09Read_l2_eq, sif_f (by omega), sbind_id]; rfl
  | succ r ih =>
    intro hr
    have hlt : r < P.length := by omega
    rw [spec_l09Read_l2_eq, sif_t (by omega), show ((r + 1 : Nat) : Int) - 1 = (r : Int) by omega, idx_nat, List.getElem?_eq_getElem hlt, sbind_some, sbind_some, wi64_id (by omega) (by omega), List.take_succ_eq_append_getElem hlt, List.reverse_append, List.reverse_singleton, List.singleton_append, List.find?_cons]
    cases h : (P[r].1 == k) with
    | true => rfl
    | false => rw [sif_false, ih (by omega)]
theorem spec_l09Read_some (B : List ByteArray) (P : List (Int × ByteArray)) (f : Int) (o : Bool) (k : Int) (hP : P.length ≤ 1048576) : spec_l09Read k B P f o = dkFind B P k := by
  rw [spec_l09Read_eq, wi64_id (by omega) (by omega), spec_read_loop B P f o k hP P.length (Nat.le_refl _), List.take_length]; rfl
theorem impl_read_some (B : List ByteArray) (P : List (Int × ByteArray)) (f : Int) (o : Bool) (k : Int) (hP : P.length ≤ 1048576) : impl_Disk_read B P f o k = dkFind B P k := by
  rw [impl_Disk_read_eq]
  unfold dkRead
  rw [if_pos (by omega)]
theorem diskOk_len {B : List ByteArray} {P : List (Int × ByteArray)} {f : Int} (h : diskOk B P f = true) : (16 ≤ (B.length : Int) ∧ (B.length : Int) ≤ 256) ∧ P.length ≤ 600 := by
  unfold diskOk at h
  simp only [Bool.and_eq_true, inr_iff, Bool.not_eq_true', decide_eq_false_iff_not] at h
  omega
theorem dkFind_ok {B : List ByteArray} {P : List (Int × ByteArray)} {f k : Int} (h : diskOk B P f = true) (hk : inr k 0 ((B.length : Int) - 1) = true) : ∃ b, dkFind B P k = some b ∧ b.size = 64 := by
  have hB : B.all (fun b => (b.size : Int) == 64) = true ∧ P.all (putOk B.length) = true := by
    unfold diskOk at h
    simp only [Bool.and_eq_true] at h
    exact ⟨h.1.2, h.2⟩
  rw [inr_iff] at hk
  unfold dkFind
  cases hf : P.reverse.find? (fun p => p.1 == k) with
  | some p =>
    have hm := List.mem_of_find?_eq_some hf
    have := List.all_eq_true.1 hB.2 p (by simpa using hm)
    unfold putOk at this
    simp only [Bool.and_eq_true, beq_iff_eq] at this
    exact ⟨p.2, rfl, by omega⟩
  | none =>
    have hlt : k.toNat < B.length := by omega
    dsimp only
    rw [idx_int hk.1, List.getElem?_eq_getElem hlt]
    have := List.all_eq_true.1 hB.1 _ (List.getElem_mem hlt)
    simp only [beq_iff_eq] at this
    exact ⟨_, rfl, by omega⟩
def readM (B : List ByteArray) (P : List (Int × ByteArray)) (f k : Int) : ByteArray × Int :=
  if diskOk B P f = true then (if inr k 0 ((B.length : Int) - 1) = true then ((dkFind B P k).getD (bs []), 0) else (bs [], 2)) else (bs [], 1)
theorem spec_ReadBlock_some (B : List ByteArray) (P : List (Int × ByteArray)) (f : Int) (o : Bool) (k : Int) : spec_ReadBlock B P f o k = some (readM B P f k) := by
  unfold readM
  rw [spec_ReadBlock_eq, spec_l09Ok_some, sbind_some]
  cases h : diskOk B P f with
  | false => rfl
  | true =>
    have hl := diskOk_len h
    rw [Bool.not_true, sif_false, wi64_id (by omega) (by omega), spec_l00In_some, sbind_some, if_pos rfl]
    cases hk : inr k 0 ((B.length : Int) - 1) with
    | false => rfl
    | true =>
      obtain ⟨b, hb, _⟩ := dkFind_ok h hk
      rw [Bool.not_true, sif_false, spec_l09Read_some B P f o k (by omega), hb, sbind_some, if_pos rfl]; rfl
theorem impl_ReadBlock_some (B : List ByteArray) (P : List (Int × ByteArray)) (f : Int) (o : Bool) (k : Int) : impl_ReadBlock B P f o k = some (readM B P f k) := by
  unfold readM
  rw [impl_ReadBlock_eq, impl_ValidDisk_some, sbind_some]
  cases h : diskOk B P f with
  | false => rfl
  | true =>
    have hl := diskOk_len h
    rw [Bool.not_true, sif_false, impl_isIndex_some _ _ (by omega) (by omega), sbind_some, if_pos rfl]
    cases hk : inr k 0 ((B.length : Int) - 1) with
    | false => rfl
    | true =>
      obtain ⟨b, hb, _⟩ := dkFind_ok h hk
      rw [Bool.not_true, sif_false, impl_read_some B P f o k (by omega), hb, sbind_some, if_pos rfl]; rfl
/-! FnExactReadBlock -/
theorem pure_FnExactReadBlock (aD_Blocks : List ByteArray) (aD_Pending : List (Int × ByteArray)) (aD_Fuse : Int) (aD_Off : Bool) (aK : Int) (O0 : (aD_Blocks.length ≤ maxLen ∧ aD_Blocks.length * 16 ≤ 140737488351232 ∧ ∀ e_ ∈ aD_Blocks, e_.size ≤ 140737488351232) ∧ (aD_Pending.length ≤ maxLen ∧ aD_Pending.length * 24 ≤ 140737488351232 ∧ ∀ e_ ∈ aD_Pending, ((Lit.int .i64 e_.1).wf = true) ∧ (e_.2.size ≤ 140737488351232)) ∧ ((Lit.int .i64 aD_Fuse).wf = true) ∧ (True)) (O1 : (Lit.int .i64 aK).wf = true) : laws_FnExactReadBlock aD_Blocks aD_Pending aD_Fuse aD_Off aK = some true := by
  obtain ⟨⟨_, p1, p2⟩, ⟨_, p3, p4⟩, _⟩ := O0
  have hsm : sm_Disk (aD_Blocks, aD_Pending, aD_Fuse, aD_Off) := ⟨⟨by dsimp only; omega, fun x hx => by have := p2 x hx; omega⟩, ⟨by dsimp only; omega, fun x hx => by have := (p4 x hx).2; unfold sm_Put; omega⟩⟩
  have e0 : laws_szDisk aD_Blocks aD_Pending aD_Fuse aD_Off 1048576 = _ := szDisk_some (aD_Blocks, aD_Pending, aD_Fuse, aD_Off) 1048576 hsm (by omega) (by omega)
  rw [laws_FnExactReadBlock_eq, e0, sbind_some]
  by_cases c : ((bulk_Disk (aD_Blocks, aD_Pending, aD_Fuse, aD_Off) : Nat) : Int) ≤ 1048576
  · rw [if_pos c, sif_f (by omega)]
    have hb : bulk_Disk (aD_Blocks, aD_Pending, aD_Fuse, aD_Off) ≤ 1048576 := by omega
    have t : laws_toDisk aD_Blocks aD_Pending aD_Fuse aD_Off = some (aD_Fuse, aD_Off, aD_Blocks, aD_Pending) := toDisk_some (aD_Blocks, aD_Pending, aD_Fuse, aD_Off) hb
    have q0 : laws_eqDisk aD_Blocks aD_Pending aD_Fuse aD_Off aD_Blocks aD_Pending aD_Fuse aD_Off = some true := eqDisk_refl (aD_Blocks, aD_Pending, aD_Fuse, aD_Off) hb
    simp only [t, sbind_some, spec_ReadBlock_some, impl_ReadBlock_some, seq_self, q0, Bool.not_true, sif_false, bne_self_eq_false]
  · rw [if_neg c, sif_t (by omega)]
end Go.Ve.X
