/- What 'FnExactRootOf' comes to, in plain words over numbers, texts and lists: each function that it reaches answers what is told; put together, the law answers true. No condition but the sizes that come in. -/
import Derived.Test.YtbjjgoffcpdicaaEqFnExactRootOf
namespace Go.Ve.X
open Go.Ve
set_option linter.all false
set_option maxRecDepth 100000
def bulk_Put (x : Int × ByteArray) : Nat := x.2.size
def bulk_Disk (x : List ByteArray × List (Int × ByteArray) × Int × Bool) : Nat := (bulkL ByteArray.size x.1) + (bulkL bulk_Put x.2.1)
def bulk_Page (x : Int × ByteArray) : Nat := x.2.size
theorem szStringS_some (a : List ByteArray) (left : Int) (hs : smL (fun x => x.size ≤ 140737488355328) a) (h0 : 0 ≤ left) (h1 : left ≤ 1048576) : laws_szStringS a left = some (if ((bulkL ByteArray.size a : Nat) : Int) ≤ left then left - ((bulkL ByteArray.size a : Nat) : Int) else -1) := by
  have hl := hs.1
  have key := fun (h0 : 0 ≤ left - (a.length : Int)) => sz_loop a ByteArray.size (fun left i => laws_szStringS_l5 a left i) (fun left => by rw [laws_szStringS_l5_eq, sif_f (by omega)]) (fun i x left hx hi h0 h1 => by
    have hx' : x.size ≤ 140737488355328 := hs.2 x (mem_of_at hx)
    rw [laws_szStringS_l5_eq, sif_t (by omega), idx_some hx, sbind_some, wi64_id (by omega) (by omega), wi64_add1 (by omega)]
    by_cases c : (x.size : Int) ≤ left
    · rw [if_pos c, sif_f (by omega)]
    · rw [if_neg c, sif_t (by omega)]) (left - (a.length : Int)) h0 (by omega)
  rw [laws_szStringS_eq, wi64_id (by omega) (by omega)]
  by_cases c : (a.length : Int) ≤ left
  · rw [sif_f (by omega), key (by omega)]
    unfold bulkL
    by_cases c2 : (((a.map ByteArray.size).sum : Nat) : Int) ≤ left - a.length
    · rw [if_pos c2, if_pos (by omega)]; congr 1; omega
    · rw [if_neg c2, if_neg (by omega)]
  · rw [sif_t (by omega), if_neg (by have := bulk_len ByteArray.size a; omega)]
def sm_Put (x : Int × ByteArray) : Prop := x.2.size ≤ 140737488355328
theorem szPut_some (x : Int × ByteArray) (left : Int) (hs : sm_Put x) (h0 : 0 ≤ left) (h1 : left ≤ 1048576) : laws_szPut x.1 x.2 left = some (if ((bulk_Put x : Nat) : Int) ≤ left then left - ((bulk_Put x : Nat) : Int) else -1) := by
  have hb : ((bulk_Put x : Nat) : Int) = ((x.2.size : Nat) : Int) := by unfold bulk_Put; omega
  unfold sm_Put at hs
  have s0 := hs
  rw [laws_szPut_eq]
  rw [wi64_id (by omega) (by omega)]
  by_cases c0 : ((x.2.size : Nat) : Int) ≤ left
  · rw [sif_f (by omega)]
    rw [if_pos (by omega)]; exact congrArg some (by omega)
  · rw [sif_t (by omega), if_neg (by omega)]
theorem szPutS_some (a : List (Int × ByteArray)) (left : Int) (hs : smL sm_Put a) (h0 : 0 ≤ left) (h1 : left ≤ 1048576) : laws_szPutS a left = some (if ((bulkL bulk_Put a : Nat) : Int) ≤ left then left - ((bulkL bulk_Put a : Nat) : Int) else -1) := by
  have hl := hs.1
  have key := fun (h0 : 0 ≤ left - (a.length : Int)) => sz_loop a bulk_Put (fun left i => laws_szPutS_l5 a left i) (fun left => by rw [laws_szPutS_l5_eq, sif_f (by omega)]) (fun i x left hx hi h0 h1 => by
    have hb : laws_szPutS_l5 a left (i : Int) = sbind (laws_szPut x.1 x.2 left) (fun r => sif (decide (r < 0)) (some (-1)) (laws_szPutS_l5 a r (wi64 ((i : Int) + 1)))) := by rw [laws_szPutS_l5_eq, sif_t (by omega), idx_some hx, sbind_some]
    rw [hb, szPut_some x left (hs.2 x (mem_of_at hx)) h0 h1, sbind_some, wi64_add1 (by omega)]
    by_cases c : ((bulk_Put x : Nat) : Int) ≤ left
    · rw [if_pos c, if_pos c, sif_f (by omega)]
    · rw [if_neg c, if_neg c, sif_t (by omega)]) (left - (a.length : Int)) h0 (by omega)
  rw [laws_szPutS_eq, wi64_id (by omega) (by omega)]
  by_cases c : (a.length : Int) ≤ left
  · rw [sif_f (by omega), key (by omega)]
    unfold bulkL
    by_cases c2 : (((a.map bulk_Put).sum : Nat) : Int) ≤ left - a.length
    · rw [if_pos c2, if_pos (by omega)]; congr 1; omega
    · rw [if_neg c2, if_neg (by omega)]
  · rw [sif_t (by omega), if_neg (by have := bulk_len bulk_Put a; omega)]
def sm_Disk (x : List ByteArray × List (Int × ByteArray) × Int × Bool) : Prop := (smL (fun x => x.size ≤ 140737488355328) x.1) ∧ (smL sm_Put x.2.1)
theorem szDisk_some (x : List ByteArray × List (Int × ByteArray) × Int × Bool) (left : Int) (hs : sm_Disk x) (h0 : 0 ≤ left) (h1 : left ≤ 1048576) : laws_szDisk x.1 x.2.1 x.2.2.1 x.2.2.2 left = some (if ((bulk_Disk x : Nat) : Int) ≤ left then left - ((bulk_Disk x : Nat) : Int) else -1) := by
  have hb : ((bulk_Disk x : Nat) : Int) = ((bulkL ByteArray.size x.1 : Nat) : Int) + ((bulkL bulk_Put x.2.1 : Nat) : Int) := by unfold bulk_Disk; omega
  unfold sm_Disk at hs
  obtain ⟨s0, s1⟩ := hs
  rw [laws_szDisk_eq]
  rw [szStringS_some x.1 (left) s0 (by omega) (by omega), sbind_some]
  by_cases c0 : ((bulkL ByteArray.size x.1 : Nat) : Int) ≤ left
  · rw [if_pos c0, sif_f (by omega)]
    rw [szPutS_some x.2.1 (left - ((bulkL ByteArray.size x.1 : Nat) : Int)) s1 (by omega) (by omega), sbind_some]
    by_cases c1 : ((bulkL bulk_Put x.2.1 : Nat) : Int) ≤ left - ((bulkL ByteArray.size x.1 : Nat) : Int)
    · rw [if_pos c1, sif_f (by omega)]
      rw [if_pos (by omega)]; exact congrArg some (by omega)
    · rw [if_neg c1, sif_t (by omega), if_neg (by omega)]
  · rw [if_neg c0, sif_t (by omega), if_neg (by omega)]
def sm_Page (x : Int × ByteArray) : Prop := x.2.size ≤ 140737488355328
theorem szPage_some (x : Int × ByteArray) (left : Int) (hs : sm_Page x) (h0 : 0 ≤ left) (h1 : left ≤ 1048576) : laws_szPage x.1 x.2 left = some (if ((bulk_Page x : Nat) : Int) ≤ left then left - ((bulk_Page x : Nat) : Int) else -1) := by
  have hb : ((bulk_Page x : Nat) : Int) = ((x.2.size : Nat) : Int) := by unfold bulk_Page; omega
  unfold sm_Page at hs
  have s0 := hs
  rw [laws_szPage_eq]
  rw [wi64_id (by omega) (by omega)]
  by_cases c0 : ((x.2.size : Nat) : Int) ≤ left
  · rw [sif_f (by omega)]
    rw [if_pos (by omega)]; exact congrArg some (by omega)
  · rw [sif_t (by omega), if_neg (by omega)]
theorem szPageS_some (a : List (Int × ByteArray)) (left : Int) (hs : smL sm_Page a) (h0 : 0 ≤ left) (h1 : left ≤ 1048576) : laws_szPageS a left = some (if ((bulkL bulk_Page a : Nat) : Int) ≤ left then left - ((bulkL bulk_Page a : Nat) : Int) else -1) := by
  have hl := hs.1
  have key := fun (h0 : 0 ≤ left - (a.length : Int)) => sz_loop a bulk_Page (fun left i => laws_szPageS_l5 a left i) (fun left => by rw [laws_szPageS_l5_eq, sif_f (by omega)]) (fun i x left hx hi h0 h1 => by
    have hb : laws_szPageS_l5 a left (i : Int) = sbind (laws_szPage x.1 x.2 left) (fun r => sif (decide (r < 0)) (some (-1)) (laws_szPageS_l5 a r (wi64 ((i : Int) + 1)))) := by rw [laws_szPageS_l5_eq, sif_t (by omega), idx_some hx, sbind_some]
    rw [hb, szPage_some x left (hs.2 x (mem_of_at hx)) h0 h1, sbind_some, wi64_add1 (by omega)]
    by_cases c : ((bulk_Page x : Nat) : Int) ≤ left
    · rw [if_pos c, if_pos c, sif_f (by omega)]
    · rw [if_neg c, if_neg c, sif_t (by omega)]) (left - (a.length : Int)) h0 (by omega)
  rw [laws_szPageS_eq, wi64_id (by omega) (by omega)]
  by_cases c : (a.length : Int) ≤ left
  · rw [sif_f (by omega), key (by omega)]
    unfold bulkL
    by_cases c2 : (((a.map bulk_Page).sum : Nat) : Int) ≤ left - a.length
    · rw [if_pos c2, if_pos (by omega)]; congr 1; omega
    · rw [if_neg c2, if_neg (by omega)]
  · rw [sif_t (by omega), if_neg (by have := bulk_len bulk_Page a; omega)]
def bulk_Pager (x : List ByteArray × List (Int × ByteArray) × Int × Bool × Int × Int × Int × Int × Int × Int × List (Int × ByteArray) × List (Int × ByteArray)) : Nat := (bulk_Disk (x.1, x.2.1, x.2.2.1, x.2.2.2.1)) + (bulkL bulk_Page x.2.2.2.2.2.2.2.2.2.2.1) + (bulkL bulk_Page x.2.2.2.2.2.2.2.2.2.2.2)
def sm_Pager (x : List ByteArray × List (Int × ByteArray) × Int × Bool × Int × Int × Int × Int × Int × Int × List (Int × ByteArray) × List (Int × ByteArray)) : Prop := (sm_Disk (x.1, x.2.1, x.2.2.1, x.2.2.2.1)) ∧ (smL sm_Page x.2.2.2.2.2.2.2.2.2.2.1) ∧ (smL sm_Page x.2.2.2.2.2.2.2.2.2.2.2)
theorem szPager_some (x : List ByteArray × List (Int × ByteArray) × Int × Bool × Int × Int × Int × Int × Int × Int × List (Int × ByteArray) × List (Int × ByteArray)) (left : Int) (hs : sm_Pager x) (h0 : 0 ≤ left) (h1 : left ≤ 1048576) : laws_szPager x.1 x.2.1 x.2.2.1 x.2.2.2.1 x.2.2.2.2.1 x.2.2.2.2.2.1 x.2.2.2.2.2.2.1 x.2.2.2.2.2.2.2.1 x.2.2.2.2.2.2.2.2.1 x.2.2.2.2.2.2.2.2.2.1 x.2.2.2.2.2.2.2.2.2.2.1 x.2.2.2.2.2.2.2.2.2.2.2 left = some (if ((bulk_Pager x : Nat) : Int) ≤ left then left - ((bulk_Pager x : Nat) : Int) else -1) := by
  have hb : ((bulk_Pager x : Nat) : Int) = ((bulk_Disk (x.1, x.2.1, x.2.2.1, x.2.2.2.1) : Nat) : Int) + ((bulkL bulk_Page x.2.2.2.2.2.2.2.2.2.2.1 : Nat) : Int) + ((bulkL bulk_Page x.2.2.2.2.2.2.2.2.2.2.2 : Nat) : Int) := by unfold bulk_Pager; omega
  unfold sm_Pager at hs
  obtain ⟨s0, s1, s2⟩ := hs
  rw [laws_szPager_eq]
  rw [szDisk_some (x.1, x.2.1, x.2.2.1, x.2.2.2.1) (left) s0 (by omega) (by omega), sbind_some]
  by_cases c0 : ((bulk_Disk (x.1, x.2.1, x.2.2.1, x.2.2.2.1) : Nat) : Int) ≤ left
  · rw [if_pos c0, sif_f (by omega)]
    rw [szPageS_some x.2.2.2.2.2.2.2.2.2.2.1 (left - ((bulk_Disk (x.1, x.2.1, x.2.2.1, x.2.2.2.1) : Nat) : Int)) s1 (by omega) (by omega), sbind_some]
    by_cases c1 : ((bulkL bulk_Page x.2.2.2.2.2.2.2.2.2.2.1 : Nat) : Int) ≤ left - ((bulk_Disk (x.1, x.2.1, x.2.2.1, x.2.2.2.1) : Nat) : Int)
    · rw [if_pos c1, sif_f (by omega)]
      rw [szPageS_some x.2.2.2.2.2.2.2.2.2.2.2 (left - ((bulk_Disk (x.1, x.2.1, x.2.2.1, x.2.2.2.1) : Nat) : Int) - ((bulkL bulk_Page x.2.2.2.2.2.2.2.2.2.2.1 : Nat) : Int)) s2 (by omega) (by omega), sbind_some]
      by_cases c2 : ((bulkL bulk_Page x.2.2.2.2.2.2.2.2.2.2.2 : Nat) : Int) ≤ left - ((bulk_Disk (x.1, x.2.1, x.2.2.1, x.2.2.2.1) : Nat) : Int) - ((bulkL bulk_Page x.2.2.2.2.2.2.2.2.2.2.1 : Nat) : Int)
      · rw [if_pos c2, sif_f (by omega)]
        rw [if_pos (by omega)]; exact congrArg some (by omega)
      · rw [if_neg c2, sif_t (by omega), if_neg (by omega)]
    · rw [if_neg c1, sif_t (by omega), if_neg (by omega)]
  · rw [if_neg c0, sif_t (by omega), if_neg (by omega)]
theorem toStringS_some (a : List ByteArray) (hb : bulkL ByteArray.size a ≤ 1048576) : laws_toStringS a = some a := by
  have hl : a.length ≤ 1048576 := Nat.le_trans (bulk_len ByteArray.size a) hb
  have key := loop_fill a id (fun i out => laws_toStringS_l3 a i out) id (fun out ho => by rw [laws_toStringS_l3_eq, sif_f (by omega)]; rfl) (fun i x out hx hi ho => by
    rw [laws_toStringS_l3_eq, sif_t (by omega), idx_some hx, sbind_some, sif_pos (lt3_ok (by omega) (by omega)), wi64_add1 (by omega)]
    rfl) (List.replicate a.length (bs [])) (by simp)
  rw [laws_toStringS_eq, sif_pos (by rw [le3_ok (by omega) (by omega), room_ok (by omega)]; rfl)]
  simpa using key
theorem toPut_some (x : Int × ByteArray) (hb : bulk_Put x ≤ 1048576) : laws_toPut x.1 x.2 = some (x.1, x.2) := by
  unfold bulk_Put at hb
  rw [laws_toPut_eq]
theorem toPutS_some (a : List (Int × ByteArray)) (hb : bulkL bulk_Put a ≤ 1048576) : laws_toPutS a = some a := by
  have hl : a.length ≤ 1048576 := Nat.le_trans (bulk_len bulk_Put a) hb
  have key := loop_fill a id (fun i out => laws_toPutS_l3 a i out) id (fun out ho => by rw [laws_toPutS_l3_eq, sif_f (by omega)]; rfl) (fun i x out hx hi ho => by
    rw [laws_toPutS_l3_eq, sif_t (by omega), idx_some hx, sbind_some, toPut_some x (Nat.le_trans (bulk_mem (mem_of_at hx)) hb), sbind_some, sif_pos (lt3_ok (by omega) (by omega)), wi64_add1 (by omega)]
    rfl) (List.replicate a.length ((0, (bs [])) : Int × ByteArray)) (by simp)
  rw [laws_toPutS_eq, sif_pos (by rw [le3_ok (by omega) (by omega), room_ok (by omega)]; rfl)]
  simpa using key
theorem toDisk_some (x : List ByteArray × List (Int × ByteArray) × Int × Bool) (hb : bulk_Disk x ≤ 1048576) : laws_toDisk x.1 x.2.1 x.2.2.1 x.2.2.2 = some (x.2.2.1, x.2.2.2, x.1, x.2.1) := by
  unfold bulk_Disk at hb
  rw [laws_toDisk_eq, toStringS_some x.1 (by omega), sbind_some, toPutS_some x.2.1 (by omega), sbind_some]
theorem toSuper_some (x : Int × Int × Int × Int) : laws_toSuper x.1 x.2.1 x.2.2.1 x.2.2.2 = some (x.1, x.2.1, x.2.2.1, x.2.2.2) := by
  rw [laws_toSuper_eq]
theorem toPage_some (x : Int × ByteArray) (hb : bulk_Page x ≤ 1048576) : laws_toPage x.1 x.2 = some (x.1, x.2) := by
  unfold bulk_Page at hb
  rw [laws_toPage_eq]
theorem toPageS_some (a : List (Int × ByteArray)) (hb : bulkL bulk_Page a ≤ 1048576) : laws_toPageS a = some a := by
  have hl : a.length ≤ 1048576 := Nat.le_trans (bulk_len bulk_Page a) hb
  have key := loop_fill a id (fun i out => laws_toPageS_l3 a i out) id (fun out ho => by rw [laws_toPageS_l3_eq, sif_f (by omega)]; rfl) (fun i x out hx hi ho => by
    rw [laws_toPageS_l3_eq, sif_t (by omega), idx_some hx, sbind_some, toPage_some x (Nat.le_trans (bulk_mem (mem_of_at hx)) hb), sbind_some, sif_pos (lt3_ok (by omega) (by omega)), wi64_add1 (by omega)]
    rfl) (List.replicate a.length ((0, (bs [])) : Int × ByteArray)) (by simp)
  rw [laws_toPageS_eq, sif_pos (by rw [le3_ok (by omega) (by omega), room_ok (by omega)]; rfl)]
  simpa using key
theorem toPager_some (x : List ByteArray × List (Int × ByteArray) × Int × Bool × Int × Int × Int × Int × Int × Int × List (Int × ByteArray) × List (Int × ByteArray)) (hb : bulk_Pager x ≤ 1048576) : laws_toPager x.1 x.2.1 x.2.2.1 x.2.2.2.1 x.2.2.2.2.1 x.2.2.2.2.2.1 x.2.2.2.2.2.2.1 x.2.2.2.2.2.2.2.1 x.2.2.2.2.2.2.2.2.1 x.2.2.2.2.2.2.2.2.2.1 x.2.2.2.2.2.2.2.2.2.2.1 x.2.2.2.2.2.2.2.2.2.2.2 = some (x.2.2.1, x.2.2.2.1, x.2.2.2.2.1, x.2.2.2.2.2.1, x.2.2.2.2.2.2.1, x.2.2.2.2.2.2.2.1, x.2.2.2.2.2.2.2.2.1, x.2.2.2.2.2.2.2.2.2.1, x.1, x.2.1, x.2.2.2.2.2.2.2.2.2.2.1, x.2.2.2.2.2.2.2.2.2.2.2) := by
  unfold bulk_Pager at hb
  rw [laws_toPager_eq, toDisk_some (x.1, x.2.1, x.2.2.1, x.2.2.2.1) (by omega), sbind_some, toSuper_some (x.2.2.2.2.1, x.2.2.2.2.2.1, x.2.2.2.2.2.2.1, x.2.2.2.2.2.2.2.1), sbind_some, toPageS_some x.2.2.2.2.2.2.2.2.2.2.1 (by omega), sbind_some, toPageS_some x.2.2.2.2.2.2.2.2.2.2.2 (by omega), sbind_some]
theorem eqStringS_refl (a : List ByteArray) (hb : bulkL ByteArray.size a ≤ 1048576) : laws_eqStringS a a = some true := by
  have hl : a.length ≤ 1048576 := Nat.le_trans (bulk_len ByteArray.size a) hb
  have key := loop_all a (fun i => laws_eqStringS_l4 a a (i : Int)) (some true) (by rw [laws_eqStringS_l4_eq, sif_f (by omega)]) (fun i x hx hi => by
    rw [laws_eqStringS_l4_eq, sif_t (by omega), idx_some hx, sbind_some, sbind_some, seq_self, Bool.not_true, sif_false, wi64_add1 (by omega)])
  rw [laws_eqStringS_eq, bne_self_eq_false, sif_false]
  exact key
theorem eqPut_refl (x : Int × ByteArray) (hb : bulk_Put x ≤ 1048576) : laws_eqPut x.1 x.2 x.1 x.2 = some true := by
  unfold bulk_Put at hb
  rw [laws_eqPut_eq]
  simp only [seq_self, bne_self_eq_false, beq_self_eq_true, Bool.not_true, Bool.not_false, sif_false, sif_true]
theorem eqPutS_refl (a : List (Int × ByteArray)) (hb : bulkL bulk_Put a ≤ 1048576) : laws_eqPutS a a = some true := by
  have hl : a.length ≤ 1048576 := Nat.le_trans (bulk_len bulk_Put a) hb
  have key := loop_all a (fun i => laws_eqPutS_l4 a a (i : Int)) (some true) (by rw [laws_eqPutS_l4_eq, sif_f (by omega)]) (fun i x hx hi => by
    rw [laws_eqPutS_l4_eq, sif_t (by omega), idx_some hx, sbind_some, sbind_some, eqPut_refl x (Nat.le_trans (bulk_mem (mem_of_at hx)) hb), sbind_some, Bool.not_true, sif_false, wi64_add1 (by omega)])
  rw [laws_eqPutS_eq, bne_self_eq_false, sif_false]
  exact key
theorem eqDisk_refl (x : List ByteArray × List (Int × ByteArray) × Int × Bool) (hb : bulk_Disk x ≤ 1048576) : laws_eqDisk x.1 x.2.1 x.2.2.1 x.2.2.2 x.1 x.2.1 x.2.2.1 x.2.2.2 = some true := by
  unfold bulk_Disk at hb
  rw [laws_eqDisk_eq, eqStringS_refl x.1 (by omega), sbind_some, eqPutS_refl x.2.1 (by omega), sbind_some]
  simp only [seq_self, bne_self_eq_false, beq_self_eq_true, Bool.not_true, Bool.not_false, sif_false, sif_true]
theorem eqSuper_refl (x : Int × Int × Int × Int) : laws_eqSuper x.1 x.2.1 x.2.2.1 x.2.2.2 x.1 x.2.1 x.2.2.1 x.2.2.2 = some true := by
  rw [laws_eqSuper_eq]
  simp only [seq_self, bne_self_eq_false, beq_self_eq_true, Bool.not_true, Bool.not_false, sif_false, sif_true]
theorem eqPage_refl (x : Int × ByteArray) (hb : bulk_Page x ≤ 1048576) : laws_eqPage x.1 x.2 x.1 x.2 = some true := by
  unfold bulk_Page at hb
  rw [laws_eqPage_eq]
  simp only [seq_self, bne_self_eq_false, beq_self_eq_true, Bool.not_true, Bool.not_false, sif_false, sif_true]
theorem eqPageS_refl (a : List (Int × ByteArray)) (hb : bulkL bulk_Page a ≤ 1048576) : laws_eqPageS a a = some true := by
  have hl : a.length ≤ 1048576 := Nat.le_trans (bulk_len bulk_Page a) hb
  have key := loop_all a (fun i => laws_eqPageS_l4 a a (i : Int)) (some true) (by rw [laws_eqPageS_l4_eq, sif_f (by omega)]) (fun i x hx hi => by
    rw [laws_eqPageS_l4_eq, sif_t (by omega), idx_some hx, sbind_some, sbind_some, eqPage_refl x (Nat.le_trans (bulk_mem (mem_of_at hx)) hb), sbind_some, Bool.not_true, sif_false, wi64_add1 (by omega)])
  rw [laws_eqPageS_eq, bne_self_eq_false, sif_false]
  exact key
theorem eqPager_refl (x : List ByteArray × List (Int × ByteArray) × Int × Bool × Int × Int × Int × Int × Int × Int × List (Int × ByteArray) × List (Int × ByteArray)) (hb : bulk_Pager x ≤ 1048576) : laws_eqPager x.1 x.2.1 x.2.2.1 x.2.2.2.1 x.2.2.2.2.1 x.2.2.2.2.2.1 x.2.2.2.2.2.2.1 x.2.2.2.2.2.2.2.1 x.2.2.2.2.2.2.2.2.1 x.2.2.2.2.2.2.2.2.2.1 x.2.2.2.2.2.2.2.2.2.2.1 x.2.2.2.2.2.2.2.2.2.2.2 x.1 x.2.1 x.2.2.1 x.2.2.2.1 x.2.2.2.2.1 x.2.2.2.2.2.1 x.2.2.2.2.2.2.1 x.2.2.2.2.2.2.2.1 x.2.2.2.2.2.2.2.2.1 x.2.2.2.2.2.2.2.2.2.1 x.2.2.2.2.2.2.2.2.2.2.1 x.2.2.2.2.2.2.2.2.2.2.2 = some true := by
  unfold bulk_Pager at hb
  rw [laws_eqPager_eq, eqDisk_refl (x.1, x.2.1, x.2.2.1, x.2.2.2.1) (by omega), sbind_some, eqSuper_refl (x.2.2.2.2.1, x.2.2.2.2.2.1, x.2.2.2.2.2.2.1, x.2.2.2.2.2.2.2.1), sbind_some, eqPageS_refl x.2.2.2.2.2.2.2.2.2.2.1 (by omega), sbind_some, eqPageS_refl x.2.2.2.2.2.2.2.2.2.2.2 (by omega), sbind_some]
  simp only [seq_self, bne_self_eq_false, beq_self_eq_true, Bool.not_true, Bool.not_false, sif_false, sif_true]
/-! vsL -/
theorem spec_l00In_inr (n lo hi : Int) : spec_l00In n lo hi = some (inr n lo hi) := by rw [spec_l00In_eq, inr_sif]
theorem impl_within_inr (n lo hi : Int) : impl_within n lo hi = some (inr n lo hi) := by rw [impl_within_eq, inr_sif]
def vS (b l q t : Int) : Bool := inr b 16 256 && (inr l 8 64 && (decide (l ≤ b - 4) && (inr q 0 1000000000000 && inr t 0 1000000000000)))
theorem spec_ValidSuper_some (b l q t : Int) : spec_ValidSuper b l q t = some (vS b l q t) := by
  rw [spec_ValidSuper_eq]
  simp only [spec_l00In_inr, sbind_some, sif_bool]
  unfold vS
  cases h : inr b 16 256 with
  | false => rfl
  | true =>
    rw [inr_iff] at h
    rw [wi64_id (by omega) (by omega)]
theorem impl_ValidSuper_some (b l q t : Int) : impl_ValidSuper b l q t = some (vS b l q t) := by
  rw [impl_ValidSuper_eq]
  simp only [impl_within_inr, sbind_some, sif_bool]
  unfold vS
  cases h : inr b 16 256 with
  | false => rfl
  | true =>
    rw [inr_iff] at h
    rw [wi64_id (by omega) (by omega)]
    congr 1
    simp only [Bool.true_and]
    rw [← Bool.and_assoc (inr l 8 64)]
    congr 1
    rw [Bool.eq_iff_iff]
    simp only [Bool.and_eq_true, inr_iff, decide_eq_true_eq]
    split <;> omega
theorem vS_iff {b l q t : Int} : vS b l q t = true ↔ (16 ≤ b ∧ b ≤ 256) ∧ (8 ≤ l ∧ l ≤ 64) ∧ l ≤ b - 4 ∧ (0 ≤ q ∧ q ≤ 1000000000000) ∧ (0 ≤ t ∧ t ≤ 1000000000000) := by
  unfold vS
  simp only [Bool.and_eq_true, inr_iff, decide_eq_true_eq]
/-! within -/
theorem spec_l00In_some (n lo hi : Int) : spec_l00In n lo hi = some (inr n lo hi) := by rw [spec_l00In_eq, inr_sif]
theorem impl_within_some (n lo hi : Int) : impl_within n lo hi = some (inr n lo hi) := by rw [impl_within_eq, inr_sif]
/-! diskDef -/
def putOk (n : Int) (p : Int × ByteArray) : Bool := inr p.1 0 (n - 1) && ((p.2.size : Int) == 64)
def diskOk (B : List ByteArray) (P : List (Int × ByteArray)) (f : Int) : Bool :=
  inr B.length 16 256 && !decide ((P.length : Int) > 600) && inr f (-1) 100000 && B.all (fun b => (b.size : Int) == 64) && P.all (putOk B.length)
/-! implDiskP -/
theorem impl_isBlock_some (b : ByteArray) : impl_isBlock b = some ((b.size : Int) == 64) := by rw [impl_isBlock_eq]
theorem impl_ValidDisk_1_some (b : ByteArray) : impl_ValidDisk_1 b = some (!((b.size : Int) == 64)) := by rw [impl_ValidDisk_1_eq, impl_isBlock_some, sbind_some]
theorem impl_isIndex_some (i n : Int) (h0 : 0 ≤ n) (h1 : n ≤ 1000000000000) : impl_isIndex i n = some (inr i 0 (n - 1)) := by
  rw [impl_isIndex_eq, wi64_id (by omega) (by omega), impl_within_some, sbind_some]
theorem impl_ValidDisk_2_some (p : Int × ByteArray) (B : List ByteArray) (P : List (Int × ByteArray)) (f : Int) (o : Bool) (h : B.length ≤ 1000000000000) : impl_ValidDisk_2 p.1 p.2 B P f o = some (!putOk B.length p) := by
  rw [impl_ValidDisk_2_eq, impl_isIndex_some _ _ (by omega) (by omega), sbind_some, impl_isBlock_some, sbind_some]
  unfold putOk
  cases inr p.1 0 ((B.length : Int) - 1) <;> rfl
theorem impl_ValidDisk_some (B : List ByteArray) (P : List (Int × ByteArray)) (f : Int) (o : Bool) : impl_ValidDisk B P f o = some (diskOk B P f) := by
  unfold diskOk
  rw [impl_ValidDisk_eq, impl_within_some, sbind_some]
  cases h1 : inr (B.length : Int) 16 256 with
  | false => rfl
  | true =>
    have hB := inr_iff.1 h1
    rw [Bool.not_true, sif_false]
    by_cases h2 : (P.length : Int) > 600
    · rw [sif_t h2, decide_eq_true h2]; rfl
    · rw [sif_f h2, impl_within_some, sbind_some, decide_eq_false h2]
      cases h3 : inr f (-1) 100000 with
      | false => rfl
      | true =>
        rw [Bool.not_true, sif_false]
        have k1 : slices_ContainsFunc_sstring_string_d_ValidDisk_1 B = some (B.any fun b => !((b.size : Int) == 64)) := by
          rw [slices_ContainsFunc_sstring_string_d_ValidDisk_1_eq, slices_IndexFunc_sstring_string_d_ValidDisk_1_eq]
          refine find_any (find_loop B _ (fun i => slices_IndexFunc_sstring_string_d_ValidDisk_1_l2 B (B.length : Int) i) (by rw [slices_IndexFunc_sstring_string_d_ValidDisk_1_l2_eq, sif_f (by omega)]) (fun i x hx hi => ?_))
          rw [slices_IndexFunc_sstring_string_d_ValidDisk_1_l2_eq, sif_t (by omega), idx_some hx, sbind_some, impl_ValidDisk_1_some, sbind_some, wi64_add1 (by omega)]
        have k2 : slices_ContainsFunc_simpl_Put_impl_Put_d_ValidDisk_2 P B P f o = some (P.any fun p => !putOk B.length p) := by
          rw [slices_ContainsFunc_simpl_Put_impl_Put_d_ValidDisk_2_eq, slices_IndexFunc_simpl_Put_impl_Put_d_ValidDisk_2_eq]
          refine find_any (find_loop P _ (fun i => slices_IndexFunc_simpl_Put_impl_Put_d_ValidDisk_2_l2 P (P.length : Int) i B P f o) (by rw [slices_IndexFunc_simpl_Put_impl_Put_d_ValidDisk_2_l2_eq, sif_f (by omega)]) (fun i x hx hi => ?_))
          rw [slices_IndexFunc_simpl_Put_impl_Put_d_ValidDisk_2_l2_eq, sif_t (by omega), idx_some hx, sbind_some, impl_ValidDisk_2_some _ _ _ _ _ (by omega), sbind_some, wi64_add1 (by omega)]
        rw [k1, sbind_some, any_not_all B (fun b => (b.size : Int) == 64) _ (fun _ _ => rfl), k2, any_not_all P (putOk B.length) _ (fun _ _ => rfl), sbind_some]
        cases B.all (fun b => (b.size : Int) == 64) <;> cases P.all (putOk B.length) <;> rfl
/-! pagerL -/
/-! valid lists of pages -/
def pgE : Int × ByteArray := (0, bs [])
def pgAt (l : List (Int × ByteArray)) (i : Nat) : Bool := inr (l.getD i pgE).1 0 255 && (((l.getD i pgE).2.size : Int) == 64) && (decide (i = 0) || decide ((l.getD (i - 1) pgE).1 < (l.getD i pgE).1))
def pgOk (l : List (Int × ByteArray)) : Bool := decide ((l.length : Int) ≤ 256) && (List.range l.length).all (pgAt l)
theorem pgD {l : List (Int × ByteArray)} {i : Nat} (h : i < l.length) : l[i]? = some (l.getD i pgE) := by
  rw [List.getD_eq_getElem?_getD, List.getElem?_eq_getElem h]; rfl
theorem spec_l11Pages_some (l : List (Int × ByteArray)) : spec_l11Pages l = some (pgOk l) := by
  rw [spec_l11Pages_eq]
  unfold pgOk
  by_cases h : (l.length : Int) > 256
  · rw [sif_t h, decide_eq_false (by omega), Bool.false_and]
  · rw [sif_f h, decide_eq_true (by omega), Bool.true_and]
    have k := all_loop (List.range l.length) (pgAt l) (fun i => spec_l11Pages_l4 l (i : Int)) false (fun i x hx hi => by
      rw [List.length_range] at hi
      rw [List.getElem?_range hi, Option.some.injEq] at hx
      subst hx
      show spec_l11Pages_l4 l (i : Int) = _
      rw [spec_l11Pages_l4_eq, sif_t (by omega), idx_nat, pgD hi, sbind_some, spec_l00In_some, sbind_some, sbind_some]
      unfold pgAt
      cases h1 : inr (l.getD i pgE).1 0 255 with
      | false => rfl
      | true =>
        rw [Bool.not_true, sif_false]
        show sif (!(((l.getD i pgE).2.size : Int) == 64)) _ _ = _
        rw [sif_not]
        cases h2 : (((l.getD i pgE).2.size : Int) == 64) with
        | false => rfl
        | true =>
          rw [sif_true, wi64_add1 (by omega)]
          by_cases hz : i = 0
          · rw [sif_f (by omega), decide_eq_true hz]; rfl
          · rw [sif_t (by omega), wi64_id (by omega) (by omega), show (i : Int) - 1 = ((i - 1 : Nat) : Int) by omega, idx_nat, pgD (by omega), sbind_some, sbind_some, decide_eq_false hz]
            by_cases hc : (l.getD (i - 1) pgE).1 ≥ (l.getD i pgE).1
            · rw [sif_t hc, decide_eq_false (by omega)]; rfl
            · rw [sif_f hc, decide_eq_true (by omega)]; rfl)
    refine k.trans ?_
    show sif _ (spec_l11Pages_l4 l ((List.range l.length).length : Nat)) _ = _
    rw [List.length_range, spec_l11Pages_l4_eq, sif_f (by omega), sif_some]
    cases (List.range l.length).all (pgAt l) <;> rfl
theorem impl_ValidPages_some (l : List (Int × ByteArray)) (hl : l.length ≤ 1048576) : impl_ValidPages l = some (pgOk l) := by
  rw [impl_ValidPages_eq]
  unfold pgOk
  have k := all_loop (List.range l.length) (pgAt l) (fun i => impl_ValidPages_l2 l l (l.length : Int) (i : Int)) false (fun i x hx hi => by
      rw [List.length_range] at hi
      rw [List.getElem?_range hi, Option.some.injEq] at hx
      subst hx
      show impl_ValidPages_l2 l l (l.length : Int) (i : Int) = _
      rw [impl_ValidPages_l2_eq, sif_t (by omega), idx_nat, pgD hi, sbind_some, impl_within_some, sbind_some, impl_isBlock_some, sbind_some]
      unfold pgAt
      cases h1 : inr (l.getD i pgE).1 0 255 with
      | false => rfl
      | true =>
        rw [Bool.not_true, sif_false, wi64_add1 (by omega)]
        by_cases hz : i = 0
        · rw [sif_f (by omega), decide_eq_true hz, sif_not]
          cases (((l.getD i pgE).2.size : Int) == 64) <;> rfl
        · rw [sif_t (by omega), wi64_id (by omega) (by omega), show (i : Int) - 1 = ((i - 1 : Nat) : Int) by omega, idx_nat, pgD (by omega), sbind_some, decide_eq_false hz, sif_not]
          by_cases hc : (l.getD i pgE).1 ≤ (l.getD (i - 1) pgE).1
          · rw [sif_t hc, decide_eq_false (by omega)]
            cases (((l.getD i pgE).2.size : Int) == 64) <;> rfl
          · rw [sif_f hc, decide_eq_true (by omega)]
            cases (((l.getD i pgE).2.size : Int) == 64) <;> rfl)
  refine k.trans ?_
  show sif _ (impl_ValidPages_l2 l l (l.length : Int) ((List.range l.length).length : Nat)) _ = _
  rw [List.length_range, impl_ValidPages_l2_eq, sif_f (by omega), sif_some]
  cases (List.range l.length).all (pgAt l) <;> cases decide ((l.length : Int) ≤ 256) <;> rfl
theorem pgOk_len {l : List (Int × ByteArray)} (h : pgOk l = true) : l.length ≤ 256 := by
  unfold pgOk at h
  simp only [Bool.and_eq_true, decide_eq_true_eq] at h
  omega
theorem pgOk_at {l : List (Int × ByteArray)} (h : pgOk l = true) {i : Nat} (hi : i < l.length) : pgAt l i = true := by
  unfold pgOk at h
  simp only [Bool.and_eq_true, decide_eq_true_eq] at h
  exact List.all_eq_true.1 h.2 i (List.mem_range.2 hi)
theorem pgOk_size {l : List (Int × ByteArray)} (h : pgOk l = true) {x : Int × ByteArray} (hx : x ∈ l) : x.2.size = 64 := by
  obtain ⟨i, hi, rfl⟩ := List.mem_iff_getElem.1 hx
  have := pgOk_at h hi
  unfold pgAt at this
  simp only [Bool.and_eq_true, beq_iff_eq] at this
  have e : l.getD i pgE = l[i] := by rw [List.getD_eq_getElem?_getD, List.getElem?_eq_getElem hi]; rfl
  rw [e] at this
  omega
theorem pgOk_lt {l : List (Int × ByteArray)} (h : pgOk l = true) (i : Nat) : ∀ j, i < j → j < l.length → (l.getD i pgE).1 < (l.getD j pgE).1 := by
  intro j
  induction j with
  | zero => intro h; omega
  | succ j ih =>
    intro hij hj
    have := pgOk_at h hj
    unfold pgAt at this
    simp only [Bool.and_eq_true, Bool.or_eq_true, decide_eq_true_eq, Nat.add_sub_cancel] at this
    have hs : (l.getD j pgE).1 < (l.getD (j + 1) pgE).1 := by
      rcases this.2 with h | h
      · omega
      · exact h
    rcases Nat.lt_or_ge i j with c | c
    · exact Int.lt_trans (ih c (by omega)) hs
    · obtain rfl : i = j := by omega
      exact hs
/-! finding a page -/
def hit (l : List (Int × ByteArray)) (k : Int) : Option (Int × ByteArray) := l.find? (fun p => p.1 == k)
theorem spec_find_at (l : List (Int × ByteArray)) (k : Int) (hl : l.length ≤ 1048576) : ∀ n (i : Nat), l.length = i + n → ∃ r, spec_l11Find_l2 l k (i : Int) = some r ∧ (match hit (l.drop i) k with | some x => 0 ≤ r ∧ idx l r = some x | none => r = -1) := by
  intro n
  induction n with
  | zero =>
    intro i h
    refine ⟨-1, ?_, ?_⟩
    · rw [spec_l11Find_l2_eq, sif_f (by omega)]
    · rw [List.drop_eq_nil_of_le (by omega)]; rfl
  | succ n ih =>
    intro i h
    have hi : i < l.length := by omega
    rw [spec_l11Find_l2_eq, sif_t (by omega), idx_nat, List.getElem?_eq_getElem hi, sbind_some, wi64_add1 (by omega)]
    have hd : hit (l.drop i) k = if (l[i].1 == k) = true then some l[i] else hit (l.drop (i + 1)) k := by
      unfold hit
      rw [List.drop_eq_getElem_cons hi, List.find?_cons]
      cases l[i].1 == k <;> rfl
    rw [hd]
    by_cases c : (l[i].1 == k) = true
    · rw [if_pos c, sif_pos c]
      exact ⟨(i : Int), rfl, by omega, by rw [idx_nat, List.getElem?_eq_getElem hi]⟩
    · rw [if_neg c, sif_neg (by simpa using c)]
      exact ih (i + 1) (by omega)
theorem spec_find_ok (l : List (Int × ByteArray)) (k : Int) (hl : l.length ≤ 1048576) : ∃ r, spec_l11Find l k = some r ∧ (match hit l k with | some x => 0 ≤ r ∧ idx l r = some x | none => r = -1) := by
  rw [spec_l11Find_eq]
  have := spec_find_at l k hl l.length 0 (by omega)
  rwa [List.drop_zero] at this
theorem impl_pageAt_1_some (a : Int) (b : ByteArray) (k : Int) : impl_pageAt_1 a b k = some (if a < k then -1 else if a > k then 1 else 0) := by
  rw [impl_pageAt_1_eq, cmp_Compare_int64_eq]
  have h : ∀ x : Int, cmp_isNaN_int64 x = some false := fun x => by rw [cmp_isNaN_int64_eq]; simp
  rw [h, h, sbind_some, sbind_some, sif_false, sif_false]
  by_cases c : a < k
  · rw [sif_t c, if_pos c, sbind_some]
  · rw [sif_f c, if_neg c]
    by_cases d : a > k
    · rw [sif_t d, if_pos d, sbind_some]
    · rw [sif_f d, if_neg d, sbind_some]
theorem impl_bin (l : List (Int × ByteArray)) (k : Int) (hp : pgOk l = true) : ∀ n (i j : Nat), j ≤ i + n → i ≤ j → j ≤ l.length → (∀ a, a < i → (l.getD a pgE).1 < k) → (∀ a, j ≤ a → a < l.length → k ≤ (l.getD a pgE).1) →
    ∃ (r : Int) (b : Bool), slices_BinarySearchFunc_simpl_Page_impl_Page_int64_d_pageAt_1_l3 l k (l.length : Int) (i : Int) (j : Int) = some (r, b) ∧ (match hit l k with | some x => b = true ∧ idx l r = some x | none => b = false) := by
  have hlen := pgOk_len hp
  intro n
  induction n with
  | zero =>
    intro i j hn hij hj h1 h2
    obtain rfl : i = j := by omega
    rw [slices_BinarySearchFunc_simpl_Page_impl_Page_int64_d_pageAt_1_l3_eq, sif_f (by omega)]
    by_cases hi : i < l.length
    · rw [sif_t (by omega), idx_nat, pgD hi, sbind_some, impl_pageAt_1_some, sbind_some]
      refine ⟨(i : Int), _, rfl, ?_⟩
      have h3 := h2 i (Nat.le_refl _) hi
      by_cases he : (l.getD i pgE).1 = k
      · have hh : hit l k = some (l.getD i pgE) := by
          unfold hit
          rw [List.find?_eq_some_iff_getElem]
          have e : l.getD i pgE = l[i] := by rw [List.getD_eq_getElem?_getD, List.getElem?_eq_getElem hi]; rfl
          refine ⟨by rw [he]; exact beq_self_eq_true k, i, hi, e.symm, fun a ha => ?_⟩
          have := h1 a ha
          have ea : l.getD a pgE = l[a] := by rw [List.getD_eq_getElem?_getD, List.getElem?_eq_getElem (by omega)]; rfl
          rw [ea] at this
          simp only [Bool.not_eq_true', beq_eq_false_iff_ne]
          omega
        rw [hh]
        refine ⟨?_, by rw [idx_nat, pgD hi]⟩
        rw [if_neg (by omega), if_neg (by omega)]; rfl
      · have hh : hit l k = none := by
          unfold hit
          rw [List.find?_eq_none]
          intro x hx
          obtain ⟨a, ha, rfl⟩ := List.mem_iff_getElem.1 hx
          have ea : l.getD a pgE = l[a] := by rw [List.getD_eq_getElem?_getD, List.getElem?_eq_getElem ha]; rfl
          rw [← ea, beq_iff_eq]
          rcases Nat.lt_or_ge a i with c | c
          · have := h1 a c; omega
          · rcases Nat.lt_or_ge i a with d | d
            · have := pgOk_lt hp i a d ha; omega
            · obtain rfl : a = i := by omega
              exact he
        rw [hh]
        show _ = false
        rw [if_neg (by omega), if_pos (by omega)]; rfl
    · rw [sif_f (by omega)]
      refine ⟨(i : Int), false, rfl, ?_⟩
      have hh : hit l k = none := by
        unfold hit
        rw [List.find?_eq_none]
        intro x hx
        obtain ⟨a, ha, rfl⟩ := List.mem_iff_getElem.1 hx
        have ea : l.getD a pgE = l[a] := by rw [List.getD_eq_getElem?_getD, List.getElem?_eq_getElem ha]; rfl
        have := h1 a (by omega)
        rw [← ea, beq_iff_eq]
        omega
      rw [hh]
  | succ n ih =>
    intro i j hn hij hj h1 h2
    rcases Nat.lt_or_ge i j with c | c
    · have em : wi64 (Int.fdiv (wu64 (wi64 ((i : Int) + j))) (2 ^ 1)) = (((i + j) / 2 : Nat) : Int) := by
        rw [wi64_id (n := (i : Int) + j) (by omega) (by omega), wu64_id (by omega) (by omega), Int.fdiv_eq_ediv_of_nonneg _ (by decide), show (2 : Int) ^ 1 = 2 from rfl, wi64_id (by omega) (by omega)]
        omega
      have hm : (i + j) / 2 < l.length := by omega
      rw [slices_BinarySearchFunc_simpl_Page_impl_Page_int64_d_pageAt_1_l3_eq, sif_t (by omega), em, idx_nat, pgD hm, sbind_some, impl_pageAt_1_some, sbind_some]
      by_cases d : (l.getD ((i + j) / 2) pgE).1 < k
      · rw [if_pos d, sif_t (by omega), wi64_add1 (by omega)]
        refine ih ((i + j) / 2 + 1) j (by omega) (by omega) hj (fun a ha => ?_) h2
        rcases Nat.lt_or_ge a ((i + j) / 2) with e | e
        · have := pgOk_lt hp a _ e hm; omega
        · obtain rfl : a = (i + j) / 2 := by omega
          exact d
      · rw [if_neg d, sif_f (by split <;> omega)]
        refine ih i ((i + j) / 2) (by omega) (by omega) (by omega) h1 (fun a ha hal => ?_)
        rcases Nat.lt_or_ge ((i + j) / 2) a with e | e
        · have := pgOk_lt hp _ a e hal; omega
        · obtain rfl : a = (i + j) / 2 := by omega
          omega
    · exact ih i j (by omega) hij hj h1 h2
theorem impl_pageAt_ok (l : List (Int × ByteArray)) (k : Int) (hp : pgOk l = true) : ∃ (r : Int) (b : Bool), impl_pageAt l k = some (r, b) ∧ (match hit l k with | some x => b = true ∧ idx l r = some x | none => b = false) := by
  obtain ⟨r, b, h, h'⟩ := impl_bin l k hp l.length 0 l.length (by omega) (by omega) (Nat.le_refl _) (fun a ha => by omega) (fun a ha hb => by omega)
  refine ⟨r, b, ?_, h'⟩
  rw [impl_pageAt_eq, slices_BinarySearchFunc_simpl_Page_impl_Page_int64_d_pageAt_1_eq]
  rw [show (0 : Int) = ((0 : Nat) : Int) from rfl, h, sbind_some]
/-! in the area; fits -/
def arOk (sb sl : Int) (l : List (Int × ByteArray)) : Bool := l.all fun p => inr p.1 (wi64 (2 + sl)) (wi64 (sb - 1))
theorem spec_l11Within_some (a b c d : Int) (l : List (Int × ByteArray)) (hl : l.length ≤ 1048576) : spec_l11Within a b c d l = some (arOk a b l) := by
  rw [spec_l11Within_eq]
  have k := all_loop l (fun p => inr p.1 (wi64 (2 + b)) (wi64 (a - 1))) (fun i => spec_l11Within_l2 l (i : Int) a b c d) false (fun i x hx hi => by
    show spec_l11Within_l2 l (i : Int) a b c d = _
    rw [spec_l11Within_l2_eq, sif_t (by omega), idx_some hx, sbind_some, spec_l10Area_eq, sbind_some, spec_l00In_some, sbind_some, sif_not, wi64_add1 (by omega)])
  refine k.trans ?_
  show sif _ (spec_l11Within_l2 l (l.length : Int) a b c d) _ = _
  rw [spec_l11Within_l2_eq, sif_f (by omega), sif_some]
  unfold arOk
  cases l.all (fun p => inr p.1 (wi64 (2 + b)) (wi64 (a - 1))) <;> rfl
theorem impl_inArea_1_some (a b c d : Int) (hv : vS a b c d = true) (x : Int) (y : ByteArray) : impl_Super_inArea_1 x y a b c d = some (!inr x (wi64 (2 + b)) (wi64 (a - 1))) := by
  rw [impl_Super_inArea_1_eq, impl_AreaBlock_eq, impl_ValidSuper_some, hv, sbind_some, Bool.not_true, sif_false, sbind_some, impl_within_some, sbind_some]
theorem impl_inArea_some (a b c d : Int) (hv : vS a b c d = true) (l : List (Int × ByteArray)) (hl : l.length ≤ 1048576) : impl_Super_inArea a b c d l = some (arOk a b l) := by
  rw [impl_Super_inArea_eq]
  have k1 : slices_ContainsFunc_simpl_Page_impl_Page_d_Super_inArea_1 l a b c d = some (l.any fun p => !inr p.1 (wi64 (2 + b)) (wi64 (a - 1))) := by
    rw [slices_ContainsFunc_simpl_Page_impl_Page_d_Super_inArea_1_eq, slices_IndexFunc_simpl_Page_impl_Page_d_Super_inArea_1_eq]
    refine find_any (find_loop l _ (fun i => slices_IndexFunc_simpl_Page_impl_Page_d_Super_inArea_1_l2 l (l.length : Int) i a b c d) (by rw [slices_IndexFunc_simpl_Page_impl_Page_d_Super_inArea_1_l2_eq, sif_f (by omega)]) (fun i x hx hi => ?_))
    rw [slices_IndexFunc_simpl_Page_impl_Page_d_Super_inArea_1_l2_eq, sif_t (by omega), idx_some hx, sbind_some, impl_inArea_1_some _ _ _ _ hv, sbind_some, wi64_add1 (by omega)]
  rw [k1, sbind_some, any_not_all l (fun p => inr p.1 (wi64 (2 + b)) (wi64 (a - 1))) _ (fun _ _ => rfl), Bool.not_not]
  rfl
def recB (n : Int) : Int := wi64 ((wi64 (1 + (wi64 (Int.tdiv (wi64 ((wi64 ((wi64 (2 * n)) + 64)) - 1)) 64)))) + n)
def ftOk (sl n : Int) : Bool := (n == 0) || (decide (n ≤ 60) && decide (recB n ≤ sl))
theorem spec_l12Fits_some (a b c d n : Int) : spec_l12Fits a b c d n = some (ftOk b n) := by
  rw [spec_l12Fits_eq, spec_l11Blocks_eq, spec_l11Table_eq, sbind_some, sbind_some, sif_bool, sif_bool2]
  rfl
theorem impl_fits_some (a b c d : Int) (hv : vS a b c d = true) (n : Int) (hn : 0 ≤ n) : impl_Super_fits a b c d n = some (ftOk b n) := by
  have hv := vS_iff.1 hv
  rw [impl_Super_fits_eq, impl_RecordBlocks_eq, impl_within_some, sbind_some, impl_tableBlocks_eq, sbind_some]
  unfold ftOk
  by_cases h0 : n = 0
  · subst h0
    rw [sif_t (by omega), show inr 0 1 60 = false by rw [Bool.eq_false_iff]; intro h; rw [inr_iff] at h; omega, Bool.not_false, sif_true, sbind_some, decide_eq_true (by omega)]; rfl
  · rw [show (n == 0) = false by rw [beq_eq_false_iff_ne]; exact h0, Bool.false_or]
    by_cases h6 : n ≤ 60
    · rw [sif_t h6, decide_eq_true h6, show inr n 1 60 = true by rw [inr_iff]; omega, Bool.not_true, sif_false, sbind_some]; rfl
    · rw [sif_f h6, decide_eq_false h6]; rfl
/-! the disk behind a pager -/
theorem spec_l09Ok_pg (B : List ByteArray) (P : List (Int × ByteArray)) (f : Int) (o : Bool) (s1 s2 s3 s4 q at_ : Int) (L D : List (Int × ByteArray)) : spec_l09Ok B P f o s1 s2 s3 s4 q at_ L D = some (diskOk B P f) := by
  unfold diskOk
  rw [spec_l09Ok_eq, spec_l00In_some, sbind_some]
  cases h1 : inr (B.length : Int) 16 256 with
  | false => rfl
  | true =>
    have hB := inr_iff.1 h1
    rw [Bool.not_true, sif_false]
    by_cases h2 : (P.length : Int) > 600
    · rw [sif_t h2, decide_eq_true h2]; rfl
    · rw [sif_f h2, spec_l00In_some, sbind_some, decide_eq_false h2]
      cases h3 : inr f (-1) 100000 with
      | false => rfl
      | true =>
        rw [Bool.not_true, sif_false]
        have k1 := all_loop B (fun b => (b.size : Int) == 64) (fun i => spec_l09Ok_l5 (B.length : Int) (i : Int) B P f o s1 s2 s3 s4 q at_ L D) false (fun i x hx hi => by
          rw [spec_l09Ok_l5_eq, sif_t (by omega), idx_some hx, sbind_some, wi64_add1 (by omega)]
          show sif (!((x.size : Int) == 64)) _ _ = _
          rw [sif_not])
        have k2 := all_loop P (putOk B.length) (fun i => spec_l09Ok_l10 (B.length : Int) (i : Int) B P f o s1 s2 s3 s4 q at_ L D) false (fun i x hx hi => by
          rw [spec_l09Ok_l10_eq, sif_t (by omega), idx_some hx, sbind_some, wi64_id (n := (B.length : Int) - 1) (by omega) (by omega), spec_l00In_some, sbind_some, sif_not, sbind_some, wi64_add1 (by omega)]
          unfold putOk
          show sif _ (sif (!((x.2.size : Int) == 64)) _ _) _ = _
          rw [sif_not]
          cases inr x.1 0 ((B.length : Int) - 1) <;> rfl)
        have e : spec_l09Ok_l5 (B.length : Int) (B.length : Int) B P f o s1 s2 s3 s4 q at_ L D = spec_l09Ok_l10 (B.length : Int) 0 B P f o s1 s2 s3 s4 q at_ L D := by rw [spec_l09Ok_l5_eq, sif_f (by omega)]
        have e2 : spec_l09Ok_l10 (B.length : Int) (P.length : Int) B P f o s1 s2 s3 s4 q at_ L D = some true := by rw [spec_l09Ok_l10_eq, sif_f (by omega)]
        refine k1.trans ?_
        rw [e]
        refine (congrArg (fun z => sif _ z _) k2).trans ?_
        rw [e2]
        cases B.all (fun b => (b.size : Int) == 64) <;> cases P.all (putOk B.length) <;> rfl
theorem sbind_id {α : Type} (o : Option α) : (sbind o fun x => some x) = o := by cases o <;> rfl
theorem spec_read_pg (B : List ByteArray) (P : List (Int × ByteArray)) (f : Int) (o : Bool) (s1 s2 s3 s4 q at_ : Int) (L D : List (Int × ByteArray)) (k : Int) (hP : P.length ≤ 1048576) : ∀ r, r ≤ P.length → spec_l09Read_l2 k ((r : Int) - 1) B P f o s1 s2 s3 s4 q at_ L D = (match (P.take r).reverse.find? (fun p => p.1 == k) with | some p => some p.2 | none => idx B k) := by
  intro r
  induction r with
  | zero => intro _; rw [spec_l09Read_l2_eq, sif_f (by omega), sbind_id]; rfl
  | succ r ih =>
    intro hr
    have hlt : r < P.length := by omega
    rw [spec_l09Read_l2_eq, sif_t (by omega), show ((r + 1 : Nat) : Int) - 1 = (r : Int) by omega, idx_nat, List.getElem?_eq_getElem hlt, sbind_some, sbind_some, wi64_id (by omega) (by omega), List.take_succ_eq_append_getElem hlt, List.reverse_append, List.reverse_singleton, List.singleton_append, List.find?_cons]
    cases h : (P[r].1 == k) with
    | true => rfl
    | false => rw [sif_false, ih (by omega)]
theorem spec_l09Read_pg (B : List ByteArray) (P : List (Int × ByteArray)) (f : Int) (o : Bool) (s1 s2 s3 s4 q at_ : Int) (L D : List (Int × ByteArray)) (k : Int) (hP : P.length ≤ 1048576) : spec_l09Read k B P f o s1 s2 s3 s4 q at_ L D = dkFind B P k := by
  rw [spec_l09Read_eq, wi64_id (by omega) (by omega), spec_read_pg B P f o s1 s2 s3 s4 q at_ L D k hP P.length (Nat.le_refl _), List.take_length]; rfl
theorem impl_read_pg (B : List ByteArray) (P : List (Int × ByteArray)) (f : Int) (o : Bool) (k : Int) (hP : P.length ≤ 1048576) : impl_Disk_read B P f o k = dkFind B P k := by
  rw [impl_Disk_read_eq]
  unfold dkRead
  rw [if_pos (by omega)]
/-! a valid pager -/
def pOk (B : List ByteArray) (P : List (Int × ByteArray)) (f : Int) (o : Bool) (s1 s2 s3 s4 q at_ : Int) (L D : List (Int × ByteArray)) : Bool :=
  diskOk B P f && !(decide ((P.length : Int) > 1) && !o) && vS s1 s2 s3 s4 && (s1 == (B.length : Int)) && inr q s3 1000000000000 && inr at_ 0 s2 && pgOk L && pgOk D && arOk s1 s2 L && arOk s1 s2 D && ftOk s2 (D.length : Int)
theorem spec_l12Ok_some (B : List ByteArray) (P : List (Int × ByteArray)) (f : Int) (o : Bool) (s1 s2 s3 s4 q at_ : Int) (L D : List (Int × ByteArray)) (hL : L.length ≤ 1048576) (hD : D.length ≤ 1048576) : spec_l12Ok B P f o s1 s2 s3 s4 q at_ L D = some (pOk B P f o s1 s2 s3 s4 q at_ L D) := by
  rw [spec_l12Ok_eq]
  simp only [spec_l09Ok_pg, spec_ValidSuper_some, spec_l00In_some, spec_l11Pages_some, spec_l11Within_some _ _ _ _ _ hL, spec_l11Within_some _ _ _ _ _ hD, spec_l12Fits_some, sbind_some]
  unfold pOk
  rw [show (s1 != (B.length : Int)) = !(s1 == (B.length : Int)) from rfl]
  generalize diskOk B P f = b1, decide ((P.length : Int) > 1) = b2, vS s1 s2 s3 s4 = b3, (s1 == (B.length : Int)) = b4, inr q s3 1000000000000 = b5, inr at_ 0 s2 = b6, pgOk L = b7, pgOk D = b8, arOk s1 s2 L = b9, arOk s1 s2 D = c1, ftOk s2 (D.length : Int) = c2
  cases b1 with
  | false => rfl
  | true =>
    cases b2 <;> cases o <;> cases b3 <;> cases b4 <;> cases b5 <;> cases b6 <;> cases b7 <;> cases b8 <;> cases b9 <;> cases c1 <;> rfl
theorem impl_ValidPager_some (B : List ByteArray) (P : List (Int × ByteArray)) (f : Int) (o : Bool) (s1 s2 s3 s4 q at_ : Int) (L D : List (Int × ByteArray)) (hL : L.length ≤ 1048576) (hD : D.length ≤ 1048576) : impl_ValidPager B P f o s1 s2 s3 s4 q at_ L D = some (pOk B P f o s1 s2 s3 s4 q at_ L D) := by
  rw [impl_ValidPager_eq, impl_superFits_eq]
  simp only [impl_ValidDisk_some, impl_ValidSuper_some, impl_within_some, impl_ValidPages_some _ hL, impl_ValidPages_some _ hD, sbind_some]
  unfold pOk
  cases hv : vS s1 s2 s3 s4 with
  | false =>
    rw [sif_false, sif_same, sbind_some, Bool.not_false, sif_true, Bool.and_false]
    simp
  | true =>
    simp only [impl_inArea_some _ _ _ _ hv _ hL, impl_inArea_some _ _ _ _ hv _ hD, impl_fits_some _ _ _ _ hv _ (Int.natCast_nonneg _), sbind_some]
    generalize diskOk B P f = b1, decide ((P.length : Int) > 1) = b2, (s1 == (B.length : Int)) = b4, inr q s3 1000000000000 = b5, inr at_ 0 s2 = b6, pgOk L = b7, pgOk D = b8, arOk s1 s2 L = b9, arOk s1 s2 D = c1, ftOk s2 (D.length : Int) = c2
    cases b1 with
    | false => rfl
    | true =>
      cases b2 <;> cases o <;> cases b4 <;> cases b5 <;> cases b6 <;> cases b7 <;> cases b8 <;> cases b9 <;> cases c1 <;> rfl
structure PgOk (B : List ByteArray) (P : List (Int × ByteArray)) (f : Int) (s1 s2 s3 s4 : Int) (L D : List (Int × ByteArray)) : Prop where
  disk : diskOk B P f = true
  sup : vS s1 s2 s3 s4 = true
  len : s1 = (B.length : Int)
  pl : pgOk L = true
  pd : pgOk D = true
theorem pOk_out {B : List ByteArray} {P : List (Int × ByteArray)} {f : Int} {o : Bool} {s1 s2 s3 s4 q at_ : Int} {L D : List (Int × ByteArray)} (h : pOk B P f o s1 s2 s3 s4 q at_ L D = true) : PgOk B P f s1 s2 s3 s4 L D := by
  unfold pOk at h
  simp only [Bool.and_eq_true, beq_iff_eq] at h
  obtain ⟨⟨⟨⟨⟨⟨⟨⟨⟨⟨h1, _⟩, h3⟩, h4⟩, _⟩, _⟩, h7⟩, h8⟩, _⟩, _⟩, _⟩ := h
  exact ⟨h1, h3, h4, h7, h8⟩
theorem diskOk_pend {B : List ByteArray} {P : List (Int × ByteArray)} {f : Int} (h : diskOk B P f = true) : P.length ≤ 600 := by
  unfold diskOk at h
  simp only [Bool.and_eq_true, inr_iff, Bool.not_eq_true', decide_eq_false_iff_not] at h
  omega
/-! what a page holds -/
def getM (B : List ByteArray) (P L D : List (Int × ByteArray)) (k : Int) : Option ByteArray :=
  match hit D k with
  | some x => some x.2
  | none => match hit L k with
    | some x => some x.2
    | none => dkFind B P k
theorem spec_l12Get_some {B : List ByteArray} {P : List (Int × ByteArray)} {f : Int} {o : Bool} {s1 s2 s3 s4 q at_ : Int} {L D : List (Int × ByteArray)} (k : Int) (h : PgOk B P f s1 s2 s3 s4 L D) : spec_l12Get k B P f o s1 s2 s3 s4 q at_ L D = getM B P L D k := by
  have hl := pgOk_len h.pl
  have hd := pgOk_len h.pd
  have hp := diskOk_pend h.disk
  obtain ⟨r, h1, h2⟩ := spec_find_ok D k (by omega)
  obtain ⟨r', h3, h4⟩ := spec_find_ok L k (by omega)
  rw [spec_l12Get_eq, h1, h3, spec_l09Read_pg _ _ _ _ _ _ _ _ _ _ _ _ _ (by omega), sbind_id, sbind_some, sbind_some]
  unfold getM
  cases hD : hit D k with
  | some x =>
    rw [hD] at h2
    rw [sif_t (by omega), h2.2, sbind_some]
  | none =>
    rw [hD] at h2
    rw [sif_f (by omega)]
    cases hL : hit L k with
    | some x =>
      rw [hL] at h4
      rw [sif_t (by omega), h4.2, sbind_some]
    | none =>
      rw [hL] at h4
      rw [sif_f (by omega)]
theorem impl_get_some {B : List ByteArray} {P : List (Int × ByteArray)} {f : Int} {o : Bool} {s1 s2 s3 s4 q at_ : Int} {L D : List (Int × ByteArray)} (k : Int) (h : PgOk B P f s1 s2 s3 s4 L D) : impl_Pager_get k B P f o s1 s2 s3 s4 q at_ L D = getM B P L D k := by
  have hp := diskOk_pend h.disk
  obtain ⟨r, b, h1, h2⟩ := impl_pageAt_ok D k h.pd
  obtain ⟨r', b', h3, h4⟩ := impl_pageAt_ok L k h.pl
  rw [impl_Pager_get_eq, impl_Pager_committed_eq, h1, h3, impl_read_pg _ _ _ _ _ (by omega), sbind_id, sbind_some, sbind_some, sbind_id]
  unfold getM
  cases hD : hit D k with
  | some x =>
    rw [hD] at h2
    rw [h2.1, sif_true]
    show sbind (idx D r) _ = _
    rw [h2.2, sbind_some]
  | none =>
    rw [hD] at h2
    have h2 : b = false := h2
    rw [h2, sif_false]
    cases hL : hit L k with
    | some x =>
      rw [hL] at h4
      rw [h4.1, sif_true]
      show sbind (idx L r') _ = _
      rw [h4.2, sbind_some]
    | none =>
      rw [hL] at h4
      have h4 : b' = false := h4
      rw [h4, sif_false]
theorem getM_ok {B : List ByteArray} {P : List (Int × ByteArray)} {f : Int} {s1 s2 s3 s4 : Int} {L D : List (Int × ByteArray)} {k : Int} (h : PgOk B P f s1 s2 s3 s4 L D) (hk0 : 0 ≤ k) (hk1 : k < s1) : ∃ b, getM B P L D k = some b ∧ b.size = 64 := by
  unfold getM
  cases hD : hit D k with
  | some x => exact ⟨_, rfl, pgOk_size h.pd (List.mem_of_find?_eq_some hD)⟩
  | none =>
    cases hL : hit L k with
    | some x => exact ⟨_, rfl, pgOk_size h.pl (List.mem_of_find?_eq_some hL)⟩
    | none =>
      have hd := h.disk
      have hB : B.all (fun b => (b.size : Int) == 64) = true ∧ P.all (putOk B.length) = true := by
        unfold diskOk at hd
        simp only [Bool.and_eq_true] at hd
        exact ⟨hd.1.2, hd.2⟩
      dsimp only
      unfold dkFind
      cases hf : P.reverse.find? (fun p => p.1 == k) with
      | some p =>
        have hm := List.mem_of_find?_eq_some hf
        have := List.all_eq_true.1 hB.2 p (by simpa using hm)
        unfold putOk at this
        simp only [Bool.and_eq_true, beq_iff_eq] at this
        exact ⟨p.2, rfl, by omega⟩
      | none =>
        have hlen := h.len
        have hlt : k.toNat < B.length := by omega
        dsimp only
        rw [idx_int hk0, List.getElem?_eq_getElem hlt]
        have := List.all_eq_true.1 hB.1 _ (List.getElem_mem hlt)
        simp only [beq_iff_eq] at this
        exact ⟨_, rfl, by omega⟩
/-! bytesL -/
theorem bidx_ofB (s : ByteArray) (i : Int) : bidx s i = idx (Ve.ofB s) i := by
  unfold bidx idx
  split
  · unfold Ve.ofB
    rw [List.getElem?_map]
    congr 1
    rw [Array.getElem?_toList, getElem?_def, getElem?_def]
    rfl
  · rfl
def inB (l : List Int) : Prop := ∀ x ∈ l, 0 ≤ x ∧ x ≤ 255
theorem ofB_inB (s : ByteArray) : inB (Ve.ofB s) := by
  intro x hx
  unfold Ve.ofB at hx
  obtain ⟨b, _, rfl⟩ := List.mem_map.1 hx
  have := b.toNat_lt
  omega
theorem toB_ofB (s : ByteArray) : Ve.toB (Ve.ofB s) = s := by
  unfold Ve.toB Ve.ofB
  rw [List.map_map]
  have : ((fun n : Int => UInt8.ofNat n.toNat) ∘ fun b : UInt8 => (b.toNat : Int)) = id := by funext b; simp
  rw [this, List.map_id]
theorem ofB_toB {l : List Int} (h : inB l) : Ve.ofB (Ve.toB l) = l := by
  unfold Ve.toB Ve.ofB
  simp only [List.map_map]
  conv => rhs; rw [← List.map_id l]
  refine List.map_congr_left (fun x hx => ?_)
  have := h x hx
  simp only [Function.comp, id]
  rw [UInt8.toNat_ofNat']
  omega
theorem bits_and_u64 (a : Int) : 0 ≤ bits .and .u64 a 255 ∧ bits .and .u64 a 255 ≤ 255 := by
  have h : ∀ x : BitVec 64, (x &&& 255#64).toNat ≤ 255 := fun x => by rw [BitVec.toNat_and]; exact Nat.and_le_right
  have := h (BitVec.ofInt 64 a)
  have e : bits .and .u64 a 255 = wu64 (((BitVec.ofInt 64 a) &&& 255#64).toNat : Int) := rfl
  rw [e, wu64_id (by omega) (by omega)]
  omega
/-! leL -/
def leN : List Int → Int
  | [] => 0
  | b :: r => b + 256 * leN r
theorem leN_ge : ∀ {l : List Int}, inB l → 0 ≤ leN l
  | [], _ => by simp [leN]
  | b :: r, h => by
    have := leN_ge (l := r) (fun x hx => h x (by simp [hx])); have := h b (by simp); simp only [leN]; omega
theorem leN_lt : ∀ {l : List Int}, inB l → leN l < 256 ^ l.length
  | [], _ => by simp [leN]
  | b :: r, h => by
    have := leN_lt (l := r) (fun x hx => h x (by simp [hx])); have := h b (by simp)
    simp only [leN, List.length_cons, Int.pow_succ]; omega
theorem leN_append : ∀ (a b : List Int), leN (a ++ b) = leN a + 256 ^ a.length * leN b
  | [], b => by simp [leN]
  | x :: a, b => by
    simp only [List.cons_append, leN, leN_append a b, List.length_cons, Int.pow_succ]
    rw [Int.mul_add, Int.mul_comm (256 ^ a.length) 256, Int.mul_assoc]; omega
theorem inB_take {l : List Int} (h : inB l) (n : Nat) : inB (l.take n) := fun x hx => h x (List.mem_of_mem_take hx)
theorem inB_drop {l : List Int} (h : inB l) (n : Nat) : inB (l.drop n) := fun x hx => h x (List.mem_of_mem_drop hx)
theorem leN_drop {l : List Int} (h : inB l) : ∀ n, leN (l.drop n) ≤ leN l := by
  induction l with
  | nil => intro n; simp
  | cons b r ih =>
    intro n
    cases n with
    | zero => simp
    | succ n =>
      have h1 := ih (fun x hx => h x (by simp [hx])) n
      have h2 := leN_ge (l := r) (fun x hx => h x (by simp [hx]))
      have h3 := h b (by simp)
      simp only [List.drop_succ_cons, leN]; omega
def leB (n : Int) (k : Nat) : List Int := (List.range k).map (fun i => wu8 (Int.fdiv n (2 ^ (8 * i))))
theorem leB_len (n : Int) (k : Nat) : (leB n k).length = k := by simp [leB]
theorem leB_in (n : Int) (k : Nat) : inB (leB n k) := by
  intro x hx
  obtain ⟨i, _, rfl⟩ := List.mem_map.1 hx
  rw [wu8_def]; omega
theorem fdiv_shift (n : Int) (i : Nat) : Int.fdiv n (2 ^ (8 * (i + 1))) = Int.fdiv (Int.fdiv n 256) (2 ^ (8 * i)) := by
  rw [Int.fdiv_eq_ediv_of_nonneg _ (Int.pow_nonneg (by decide)), Int.fdiv_eq_ediv_of_nonneg _ (Int.pow_nonneg (by decide)), Int.fdiv_eq_ediv_of_nonneg _ (by decide)]
  rw [Int.ediv_ediv_of_nonneg (by decide)]
  congr 1
  rw [Nat.mul_add, Int.pow_add, Int.mul_comm]; rfl
theorem leB_succ (n : Int) (k : Nat) : leB n (k + 1) = wu8 n :: leB (Int.fdiv n 256) k := by
  unfold leB
  rw [List.range_succ_eq_map, List.map_cons, List.map_map]
  congr 1
  · simp [Int.fdiv_one]
  · refine List.map_congr_left (fun i _ => ?_)
    simp only [Function.comp]
    rw [Nat.succ_eq_add_one, fdiv_shift]
theorem leN_leB : ∀ (k : Nat) (n : Int), 0 ≤ n → n < 256 ^ k → leN (leB n k) = n
  | 0, n, h0, h1 => by simp at h1; simp [leB, leN]; omega
  | k + 1, n, h0, h1 => by
    rw [Int.pow_succ] at h1
    rw [leB_succ, leN, Int.fdiv_eq_ediv_of_nonneg _ (by decide), leN_leB k (n / 256) (by omega) (by omega), wu8_def]
    omega
theorem or_add {x b k : Nat} (h : x < 2 ^ k) : x ||| (b * 2 ^ k) = x + b * 2 ^ k := by
  have := Nat.shiftLeft_add_eq_or_of_lt h b
  rw [Nat.shiftLeft_eq] at this
  rw [Nat.or_comm, ← this, Nat.add_comm]
theorem bits_or_nat {x y : Nat} (hx : x < 18446744073709551616) (hy : y < 18446744073709551616) : bits .or .u64 (x : Int) (y : Int) = ((x ||| y : Nat) : Int) := by
  have e : bits .or .u64 (x : Int) (y : Int) = wu64 (((BitVec.ofInt 64 (x : Int)) ||| (BitVec.ofInt 64 (y : Int))).toNat : Int) := rfl
  have hxy : x ||| y < 2 ^ 64 := Nat.or_lt_two_pow hx hy
  rw [e, BitVec.toNat_or, BitVec.ofInt_natCast, BitVec.ofInt_natCast, BitVec.toNat_ofNat, BitVec.toNat_ofNat, Nat.mod_eq_of_lt hx, Nat.mod_eq_of_lt hy, wu64_id (by omega) (by omega)]
theorem or_step {n b : Int} {i : Nat} (hi : i ≤ 7) (h0 : 0 ≤ n) (h1 : n < 256 ^ i) (b0 : 0 ≤ b) (b1 : b ≤ 255) : bits .or .u64 n (wu64 ((wu64 b) * 2 ^ (min (wi64 (8 * (i : Int))).toNat 64))) = n + 256 ^ i * b := by
  rw [wi64_id (by omega) (by omega), wu64_id (n := b) (by omega) (by omega)]
  have hm : min (8 * (i : Int)).toNat 64 = 8 * i := by omega
  rw [hm]
  have hp : (256 : Int) ^ i = 2 ^ (8 * i) := by rw [Int.pow_mul]; rfl
  have hpn : ((2 ^ (8 * i) : Nat) : Int) = 2 ^ (8 * i) := by push_cast; rfl
  have hle : (2 : Nat) ^ (8 * i) ≤ 2 ^ 56 := Nat.pow_le_pow_right (by decide) (by omega)
  obtain ⟨bn, rfl⟩ : ∃ bn : Nat, b = bn := ⟨b.toNat, by omega⟩
  obtain ⟨nn, rfl⟩ : ∃ nn : Nat, n = nn := ⟨n.toNat, by omega⟩
  rw [hp, ← hpn] at h1
  have hmul : bn * 2 ^ (8 * i) ≤ 255 * 2 ^ 56 := Nat.mul_le_mul (by omega) hle
  rw [hp, ← hpn, ← Int.natCast_mul, wu64_id (by omega) (by omega), bits_or_nat (by omega) (by omega), or_add (by omega)]
  push_cast
  rw [Int.mul_comm]
theorem wu8_and (m : Int) : wu8 (bits .and .i64 m 255) = wu8 m := by
  have e : bits .and .i64 m 255 = wi64 (((BitVec.ofInt 64 m) &&& 255#64).toNat : Int) := rfl
  have h : ∀ x : BitVec 64, (x &&& 255#64).toNat = x.toNat % 256 := fun x => by
    rw [BitVec.toNat_and]; exact Nat.and_two_pow_sub_one_eq_mod x.toNat 8
  rw [e, h, BitVec.toNat_ofInt, wi64_id (by omega) (by omega), wu8_def, wu8_def]
  omega
theorem toB_append (a b : List Int) : toB a ++ toB b = toB (a ++ b) := by
  unfold toB
  apply ByteArray.ext
  simp
theorem joinsT {a b : List Int} (h : a.length + b.length ≤ 4611686018427387904) : joins (toB a) (toB b) = true := joins_ok (by rw [toB_size, toB_size]; omega)
theorem extract_toB (l : List Int) (i j : Nat) : (toB l).extract i j = toB ((l.take j).drop i) := by
  unfold toB
  apply ByteArray.ext
  simp [ByteArray.data_extract, List.map_take, List.map_drop, List.drop_take]
theorem bidx_toB {l : List Int} (h : inB l) {i : Int} (h0 : 0 ≤ i) : bidx (toB l) i = l[i.toNat]? := by rw [bidx_ofB, ofB_toB h, idx_int h0]
theorem toB_inj {a b : List Int} (ha : inB a) (hb : inB b) (h : toB a = toB b) : a = b := by rw [← ofB_toB ha, h, ofB_toB hb]
theorem seq_toB {a b : List Int} (ha : inB a) (hb : inB b) : seq (toB a) (toB b) = decide (a = b) := by
  rw [seq_eq, Bool.eq_iff_iff]
  simp only [decide_eq_true_eq]
  exact ⟨toB_inj ha hb, fun h => by rw [h]⟩
/-! superL -/
def halfI (b l q t : Int) : List Int := [65, 82, 82, 83] ++ leB 1 1 ++ leB b 2 ++ leB l 2 ++ leB q 8 ++ leB t 8
def encI (b l q t : Int) : List Int := (halfI b l q t ++ List.replicate 7 0) ++ (halfI b l q t ++ List.replicate 7 0)
theorem halfI_len (b l q t : Int) : (halfI b l q t).length = 25 := by simp [halfI, leB_len]
theorem encI_len (b l q t : Int) : (encI b l q t).length = 64 := by simp [encI, halfI_len]
theorem inB_append {a b : List Int} (ha : inB a) (hb : inB b) : inB (a ++ b) := fun x hx => (List.mem_append.1 hx).elim (ha x) (hb x)
theorem halfI_in (b l q t : Int) : inB (halfI b l q t) := by
  unfold halfI
  refine inB_append (inB_append (inB_append (inB_append (inB_append ?_ (leB_in _ _)) (leB_in _ _)) (leB_in _ _)) (leB_in _ _)) (leB_in _ _)
  unfold inB; decide
theorem zeros_in (n : Nat) : inB (List.replicate n 0) := fun x hx => by rw [(List.mem_replicate.1 hx).2]; omega
theorem encI_in (b l q t : Int) : inB (encI b l q t) := inB_append (inB_append (halfI_in _ _ _ _) (zeros_in 7)) (inB_append (halfI_in _ _ _ _) (zeros_in 7))
theorem rep7 : repeatB (bs [0]) 7 = some (toB (List.replicate 7 0)) := by rfl
theorem bsA : bs [65, 82, 82, 83] = toB [65, 82, 82, 83] := rfl
/-! reading numbers -/
theorem impl_getBits_some (m : List Int) (hm : inB m) (h8 : m.length ≤ 8) : impl_getBits (toB m) = some (leN m) := by
  rw [impl_getBits_eq, toB_size]
  have := loop_to m.length (fun i n => impl_getBits_l3 (toB m) n (m.length : Int) (i : Int)) (fun _ _ => some (leN m)) (fun i n => n = leN (m.take i)) (fun n hn => by
      rw [impl_getBits_l3_eq, sif_f (by omega), hn, List.take_length])
    (fun i n hi hn ih => by
      have hb := hm _ (List.getElem_mem hi)
      have h0 := leN_ge (inB_take hm i)
      have h1 := leN_lt (inB_take hm i)
      rw [List.length_take, show min i m.length = i by omega] at h1
      rw [impl_getBits_l3_eq, sif_t (by omega), bidx_toB hm (by omega), Int.toNat_natCast, List.getElem?_eq_getElem hi, sbind_some, sif_f (by rw [wi64_id (by omega) (by omega)]; omega), or_step (by omega) (by omega) (by omega) hb.1 hb.2, wi64_add1 (by omega)]
      refine ih _ ?_
      rw [hn, List.take_succ_eq_append_getElem hi, leN_append, List.length_take, show min i m.length = i by omega]
      simp [leN]) 0 0 (by omega) rfl
  simpa using this
theorem spec_GetUint_loop (l : List Int) (hl : inB l) (at_ size : Nat) (h : at_ + size ≤ l.length) (hn : l.length ≤ 1048576) (hb : leN ((l.drop at_).take size) ≤ 9223372036854775807) : ∀ (k : Nat), k ≤ size →
    spec_l01GetUint_l5 (toB l) (at_ : Int) (leN ((l.drop (at_ + k)).take (size - k))) ((k : Int) - 1) = some (leN ((l.drop at_).take size), true) := by
  intro k
  induction k with
  | zero => intro _; rw [spec_l01GetUint_l5_eq, sif_f (by omega)]; simp
  | succ k ih =>
    intro hk
    have hlt : at_ + k < l.length := by omega
    have hx := hl _ (List.getElem_mem hlt)
    have e0 : ((k + 1 : Nat) : Int) - 1 = k := by omega
    have hd : (l.drop (at_ + k)).take (size - k) = l[at_ + k] :: (l.drop (at_ + (k + 1))).take (size - (k + 1)) := by
      rw [List.drop_eq_getElem_cons hlt, show size - k = (size - (k + 1)) + 1 by omega, List.take_succ_cons]; rfl
    have hs : (l.drop (at_ + k)).take (size - k) = ((l.drop at_).take size).drop k := by rw [List.drop_take, List.drop_drop]
    have hle := leN_drop (inB_take (inB_drop hl at_) size) k
    rw [← hs] at hle
    have hge := leN_ge (inB_take (inB_drop hl (at_ + (k + 1))) (size - (k + 1)))
    have ih := ih (by omega)
    rw [hd] at hle ih
    simp only [leN] at hle ih
    rw [e0, spec_l01GetUint_l5_eq, sif_t (by omega), wi64_id (n := (at_ : Int) + k) (by omega) (by omega), bidx_toB hl (by omega), show ((at_ : Int) + k).toNat = at_ + k by omega, List.getElem?_eq_getElem hlt, sbind_some, wi64_id (n := l[at_ + k]) (by omega) (by omega), wi64_id (n := _ * 256) (by omega) (by omega), wi64_id (n := _ + l[at_ + k]) (by omega) (by omega), wi64_id (n := (k : Int) - 1) (by omega) (by omega)]
    rw [← ih]
    congr 1
    omega
theorem spec_GetUint_small (l : List Int) (hl : inB l) (at_ size : Nat) (h1 : 1 ≤ size) (h7 : size ≤ 7) (h : at_ + size ≤ l.length) (hn : l.length ≤ 1048576) : spec_l01GetUint (toB l) (at_ : Int) (size : Int) = some (leN ((l.drop at_).take size), true) := by
  have hlt := leN_lt (inB_take (inB_drop hl at_) size)
  have hle : (256 : Int) ^ ((l.drop at_).take size).length ≤ 256 ^ 7 := by
    have : (256 : Nat) ^ ((l.drop at_).take size).length ≤ 256 ^ 7 := Nat.pow_le_pow_right (by decide) (by rw [List.length_take]; omega)
    exact_mod_cast this
  have := spec_GetUint_loop l hl at_ size h hn (by omega) size (Nat.le_refl _)
  rw [Nat.sub_self, List.take_zero] at this
  rw [spec_l01GetUint_eq, spec_l01Within_eq, spec_l00In_inr, sbind_some, show inr (size : Int) 1 8 = true by rw [inr_iff]; omega, sif_true, spec_l00In_inr, sbind_some, toB_size, show inr (at_ : Int) 0 (l.length : Int) = true by rw [inr_iff]; omega, sif_true, wi64_id (by omega) (by omega), sbind_some, show decide ((size : Int) ≤ (l.length : Int) - at_) = true by rw [decide_eq_true_eq]; omega, Bool.not_true, sif_false, sif_neg (by rw [beq_eq_false_iff_ne]; omega), wi64_id (by omega) (by omega)]
  exact this
theorem top_small {m : List Int} (hm : inB m) (h8 : m.length = 8) : (m[7]? : Option Int).getD 0 ≤ 127 → leN m ≤ 9223372036854775807 := by
  intro ht
  match m, h8 with
  | [a, b, c, d, e, f, g, h], _ =>
    have h0 := hm a (by simp); have h1 := hm b (by simp); have h2 := hm c (by simp); have h3 := hm d (by simp); have h4 := hm e (by simp); have h5 := hm f (by simp); have h6 := hm g (by simp)
    simp at ht
    simp only [leN]; omega
theorem top_big {m : List Int} (hm : inB m) (h8 : m.length = 8) : 127 < (m[7]? : Option Int).getD 0 → wi64 (leN m) < 0 := by
  intro ht
  match m, h8 with
  | [a, b, c, d, e, f, g, h], _ =>
    have h0 := hm a (by simp); have h1 := hm b (by simp); have h2 := hm c (by simp); have h3 := hm d (by simp); have h4 := hm e (by simp); have h5 := hm f (by simp); have h6 := hm g (by simp); have h7 := hm h (by simp)
    simp at ht
    have hN : leN [a, b, c, d, e, f, g, h] = a + 256 * (b + 256 * (c + 256 * (d + 256 * (e + 256 * (f + 256 * (g + 256 * (h + 256 * 0))))))) := rfl
    rw [wi64_def, if_pos (by omega)]; omega
theorem spec_GetUint_eight (l : List Int) (hl : inB l) (at_ : Nat) (h : at_ + 8 ≤ l.length) (hn : l.length ≤ 1048576) : spec_l01GetUint (toB l) (at_ : Int) 8 = some (if 127 < ((((l.drop at_).take 8))[7]? : Option Int).getD 0 then (0, false) else (leN ((l.drop at_).take 8), true)) := by
  have hlt : at_ + 7 < l.length := by omega
  have hget : ((l.drop at_).take 8)[7]? = some l[at_ + 7] := by rw [List.getElem?_take, if_pos (by omega), List.getElem?_drop, List.getElem?_eq_getElem hlt]
  have h8 : ((l.drop at_).take 8).length = 8 := by rw [List.length_take, List.length_drop]; omega
  rw [spec_l01GetUint_eq, spec_l01Within_eq, spec_l00In_inr, sbind_some, show inr 8 1 8 = true by rw [inr_iff]; omega, sif_true, spec_l00In_inr, sbind_some, toB_size, show inr (at_ : Int) 0 (l.length : Int) = true by rw [inr_iff]; omega, sif_true, wi64_id (by omega) (by omega), sbind_some, show decide ((8 : Int) ≤ (l.length : Int) - at_) = true by rw [decide_eq_true_eq]; omega, Bool.not_true, sif_false, sif_pos (show ((8 : Int) == 8) = true from rfl), wi64_id (n := (at_ : Int) + 7) (by omega) (by omega), bidx_toB hl (by omega), show ((at_ : Int) + 7).toNat = at_ + 7 by omega, List.getElem?_eq_getElem hlt, sbind_some, hget]
  dsimp only [Option.getD_some]
  by_cases hb : 127 < l[at_ + 7]
  · rw [if_pos hb, sif_t (by omega)]
  · rw [if_neg hb, sif_f (by omega), wi64_id (by omega) (by omega)]
    have := spec_GetUint_loop l hl at_ 8 h hn (top_small (inB_take (inB_drop hl at_) 8) h8 (by rw [hget]; dsimp only [Option.getD_some]; omega)) 8 (Nat.le_refl _)
    rw [Nat.sub_self, List.take_zero] at this
    exact this
/-! FnExactRootOf -/
def roM (B : List ByteArray) (P : List (Int × ByteArray)) (f : Int) (o : Bool) (s1 s2 s3 s4 q at_ : Int) (L D : List (Int × ByteArray)) : Int × Int := if pOk B P f o s1 s2 s3 s4 q at_ L D = true then (leN ((ofB ((getM B P L D (2 + s2)).getD (bs []))).take 2), 0) else (0, 1)
theorem spec_RootOf_some (B : List ByteArray) (P : List (Int × ByteArray)) (f : Int) (o : Bool) (s1 s2 s3 s4 q at_ : Int) (L D : List (Int × ByteArray)) (hL : L.length ≤ 1048576) (hD : D.length ≤ 1048576) : spec_RootOf B P f o s1 s2 s3 s4 q at_ L D = some (roM B P f o s1 s2 s3 s4 q at_ L D) := by
  unfold roM
  rw [spec_RootOf_eq, spec_l12Ok_some _ _ _ _ _ _ _ _ _ _ _ _ hL hD, sbind_some]
  cases h : pOk B P f o s1 s2 s3 s4 q at_ L D with
  | false => rfl
  | true =>
    have hp := pOk_out h
    have hs := vS_iff.1 hp.sup
    obtain ⟨b, hb, hz⟩ := getM_ok (k := 2 + s2) hp (by omega) (by omega)
    have hi := ofB_inB b
    have hn := ofB_len b
    have hg : spec_l01GetUint (toB (ofB b)) 0 2 = _ := spec_GetUint_small (ofB b) hi 0 2 (by omega) (by omega) (by omega) (by omega)
    rw [toB_ofB, List.drop_zero] at hg
    rw [Bool.not_true, sif_false, spec_l13Root_eq, spec_l13Area_eq, spec_l10Area_eq, sbind_some, wi64_id (n := 2 + s2) (by omega) (by omega), spec_l12Get_some (2 + s2) hp, hb, sbind_some, sbind_some, hg, sbind_some, sbind_some, if_pos rfl]
    rfl
theorem impl_RootOf_some (B : List ByteArray) (P : List (Int × ByteArray)) (f : Int) (o : Bool) (s1 s2 s3 s4 q at_ : Int) (L D : List (Int × ByteArray)) (hL : L.length ≤ 1048576) (hD : D.length ≤ 1048576) : impl_RootOf B P f o s1 s2 s3 s4 q at_ L D = some (roM B P f o s1 s2 s3 s4 q at_ L D) := by
  unfold roM
  rw [impl_RootOf_eq, impl_ValidPager_some _ _ _ _ _ _ _ _ _ _ _ _ hL hD, sbind_some]
  cases h : pOk B P f o s1 s2 s3 s4 q at_ L D with
  | false => rfl
  | true =>
    have hp := pOk_out h
    have hs := vS_iff.1 hp.sup
    obtain ⟨b, hb, hz⟩ := getM_ok (k := 2 + s2) hp (by omega) (by omega)
    have hi := ofB_inB b
    have hn := ofB_len b
    have hlt := leN_lt (inB_take hi 2)
    have hge := leN_ge (inB_take hi 2)
    rw [List.length_take, show min 2 (ofB b).length = 2 by omega] at hlt
    rw [Bool.not_true, sif_false, impl_Pager_root_eq, impl_Pager_area_eq, sbind_some, wi64_id (n := 2 + s2) (by omega) (by omega), impl_get_some (2 + s2) hp, hb, sbind_some, sif_pos (le3_ok (by omega) (by omega))]
    have hx : b.extract 0 2 = toB ((ofB b).take 2) := by
      have := extract_toB (ofB b) 0 2
      rw [toB_ofB] at this
      rw [this]; rfl
    rw [hx, impl_getBits_some _ (inB_take hi 2) (by rw [List.length_take]; omega), sbind_some, wi64_id (by omega) (by omega), sbind_some, if_pos rfl]
    rfl
theorem pure_FnExactRootOf (aP_Disk_Blocks : List ByteArray) (aP_Disk_Pending : List (Int × ByteArray)) (aP_Disk_Fuse : Int) (aP_Disk_Off : Bool) (aP_Super_Blocks : Int) (aP_Super_Log : Int) (aP_Super_Seq : Int) (aP_Super_Turn : Int) (aP_Seq : Int) (aP_At : Int) (aP_Logged : List (Int × ByteArray)) (aP_Dirty : List (Int × ByteArray)) (O0 : (aP_Disk_Blocks.length ≤ maxLen ∧ aP_Disk_Blocks.length * 16 ≤ 140737488351232 ∧ ∀ e_ ∈ aP_Disk_Blocks, e_.size ≤ 140737488351232) ∧ (aP_Disk_Pending.length ≤ maxLen ∧ aP_Disk_Pending.length * 24 ≤ 140737488351232 ∧ ∀ e_ ∈ aP_Disk_Pending, ((Lit.int .i64 e_.1).wf = true) ∧ (e_.2.size ≤ 140737488351232)) ∧ ((Lit.int .i64 aP_Disk_Fuse).wf = true) ∧ (True) ∧ ((Lit.int .i64 aP_Super_Blocks).wf = true) ∧ ((Lit.int .i64 aP_Super_Log).wf = true) ∧ ((Lit.int .i64 aP_Super_Seq).wf = true) ∧ ((Lit.int .i64 aP_Super_Turn).wf = true) ∧ ((Lit.int .i64 aP_Seq).wf = true) ∧ ((Lit.int .i64 aP_At).wf = true) ∧ (aP_Logged.length ≤ maxLen ∧ aP_Logged.length * 24 ≤ 140737488351232 ∧ ∀ e_ ∈ aP_Logged, ((Lit.int .i64 e_.1).wf = true) ∧ (e_.2.size ≤ 140737488351232)) ∧ (aP_Dirty.length ≤ maxLen ∧ aP_Dirty.length * 24 ≤ 140737488351232 ∧ ∀ e_ ∈ aP_Dirty, ((Lit.int .i64 e_.1).wf = true) ∧ (e_.2.size ≤ 140737488351232))) : laws_FnExactRootOf aP_Disk_Blocks aP_Disk_Pending aP_Disk_Fuse aP_Disk_Off aP_Super_Blocks aP_Super_Log aP_Super_Seq aP_Super_Turn aP_Seq aP_At aP_Logged aP_Dirty = some true := by
  obtain ⟨⟨_, p1, p2⟩, ⟨_, p3, p4⟩, _, _, _, _, _, _, _, _, ⟨_, p5, p6⟩, ⟨_, p7, p8⟩⟩ := O0
  have hsm : sm_Pager (aP_Disk_Blocks, aP_Disk_Pending, aP_Disk_Fuse, aP_Disk_Off, aP_Super_Blocks, aP_Super_Log, aP_Super_Seq, aP_Super_Turn, aP_Seq, aP_At, aP_Logged, aP_Dirty) := by
    refine ⟨⟨⟨?_, fun x hx => ?_⟩, ⟨?_, fun x hx => ?_⟩⟩, ⟨?_, fun x hx => ?_⟩, ⟨?_, fun x hx => ?_⟩⟩
    · dsimp only; omega
    · have := p2 x hx; omega
    · dsimp only; omega
    · have := (p4 x hx).2; unfold sm_Put; omega
    · dsimp only; omega
    · have := (p6 x hx).2; unfold sm_Page; omega
    · dsimp only; omega
    · have := (p8 x hx).2; unfold sm_Page; omega
  have e0 : laws_szPager aP_Disk_Blocks aP_Disk_Pending aP_Disk_Fuse aP_Disk_Off aP_Super_Blocks aP_Super_Log aP_Super_Seq aP_Super_Turn aP_Seq aP_At aP_Logged aP_Dirty 1048576 = _ := szPager_some (aP_Disk_Blocks, aP_Disk_Pending, aP_Disk_Fuse, aP_Disk_Off, aP_Super_Blocks, aP_Super_Log, aP_Super_Seq, aP_Super_Turn, aP_Seq, aP_At, aP_Logged, aP_Dirty) 1048576 hsm (by omega) (by omega)
  rw [laws_FnExactRootOf_eq, e0, sbind_some]
  by_cases c : ((bulk_Pager (aP_Disk_Blocks, aP_Disk_Pending, aP_Disk_Fuse, aP_Disk_Off, aP_Super_Blocks, aP_Super_Log, aP_Super_Seq, aP_Super_Turn, aP_Seq, aP_At, aP_Logged, aP_Dirty) : Nat) : Int) ≤ 1048576
  · rw [if_pos c, sif_f (by omega)]
    have hb : bulk_Pager (aP_Disk_Blocks, aP_Disk_Pending, aP_Disk_Fuse, aP_Disk_Off, aP_Super_Blocks, aP_Super_Log, aP_Super_Seq, aP_Super_Turn, aP_Seq, aP_At, aP_Logged, aP_Dirty) ≤ 1048576 := by omega
    have hL : aP_Logged.length ≤ 1048576 := Nat.le_trans (bulk_len bulk_Page aP_Logged) (Nat.le_trans (Nat.le_trans (Nat.le_add_left _ _) (Nat.le_add_right _ _)) hb)
    have hD : aP_Dirty.length ≤ 1048576 := Nat.le_trans (bulk_len bulk_Page aP_Dirty) (Nat.le_trans (Nat.le_add_left _ _) hb)
    have t : laws_toPager aP_Disk_Blocks aP_Disk_Pending aP_Disk_Fuse aP_Disk_Off aP_Super_Blocks aP_Super_Log aP_Super_Seq aP_Super_Turn aP_Seq aP_At aP_Logged aP_Dirty = some (aP_Disk_Fuse, aP_Disk_Off, aP_Super_Blocks, aP_Super_Log, aP_Super_Seq, aP_Super_Turn, aP_Seq, aP_At, aP_Disk_Blocks, aP_Disk_Pending, aP_Logged, aP_Dirty) := toPager_some (aP_Disk_Blocks, aP_Disk_Pending, aP_Disk_Fuse, aP_Disk_Off, aP_Super_Blocks, aP_Super_Log, aP_Super_Seq, aP_Super_Turn, aP_Seq, aP_At, aP_Logged, aP_Dirty) hb
    have q0 : laws_eqPager aP_Disk_Blocks aP_Disk_Pending aP_Disk_Fuse aP_Disk_Off aP_Super_Blocks aP_Super_Log aP_Super_Seq aP_Super_Turn aP_Seq aP_At aP_Logged aP_Dirty aP_Disk_Blocks aP_Disk_Pending aP_Disk_Fuse aP_Disk_Off aP_Super_Blocks aP_Super_Log aP_Super_Seq aP_Super_Turn aP_Seq aP_At aP_Logged aP_Dirty = some true := eqPager_refl (aP_Disk_Blocks, aP_Disk_Pending, aP_Disk_Fuse, aP_Disk_Off, aP_Super_Blocks, aP_Super_Log, aP_Super_Seq, aP_Super_Turn, aP_Seq, aP_At, aP_Logged, aP_Dirty) hb
    simp only [t, spec_RootOf_some _ _ _ _ _ _ _ _ _ _ _ _ hL hD, impl_RootOf_some _ _ _ _ _ _ _ _ _ _ _ _ hL hD, sbind_some, bne_self_eq_false, q0, Bool.not_true, sif_false]
  · rw [if_neg c, sif_t (by omega)]
end Go.Ve.X
