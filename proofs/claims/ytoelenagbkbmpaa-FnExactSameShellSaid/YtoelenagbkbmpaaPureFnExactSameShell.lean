/- What 'FnExactSameShell' comes to, in plain words over numbers, texts and lists: each function that it reaches answers what is told; put together, the law answers true. No condition but the sizes that come in. -/
import Derived.Test.YtoelenagbkbmpaaEqFnExactSameShell
namespace Go.Ve.X
open Go.Ve
set_option linter.all false
set_option maxRecDepth 100000
def bulk_Put (x : Int × ByteArray) : Nat := x.2.size
def bulk_Disk (x : List ByteArray × List (Int × ByteArray) × Int × Bool) : Nat := (bulkL ByteArray.size x.1) + (bulkL bulk_Put x.2.1)
def bulk_Page (x : Int × ByteArray) : Nat := x.2.size
def bulk_Pager (x : List ByteArray × List (Int × ByteArray) × Int × Bool × Int × Int × Int × Int × Int × Int × List (Int × ByteArray) × List (Int × ByteArray)) : Nat := (bulk_Disk (x.1, x.2.1, x.2.2.1, x.2.2.2.1)) + (bulkL bulk_Page x.2.2.2.2.2.2.2.2.2.2.1) + (bulkL bulk_Page x.2.2.2.2.2.2.2.2.2.2.2)
def bulk_Store (x : List ByteArray × List (Int × ByteArray) × Int × Bool × Int × Int × Int × Int × Int × Int × List (Int × ByteArray) × List (Int × ByteArray)) : Nat := (bulk_Pager (x.1, x.2.1, x.2.2.1, x.2.2.2.1, x.2.2.2.2.1, x.2.2.2.2.2.1, x.2.2.2.2.2.2.1, x.2.2.2.2.2.2.2.1, x.2.2.2.2.2.2.2.2.1, x.2.2.2.2.2.2.2.2.2.1, x.2.2.2.2.2.2.2.2.2.2.1, x.2.2.2.2.2.2.2.2.2.2.2))
def bulk_Numbers (x : List Int × List Int) : Nat := x.1.length + x.2.length
def bulk_NamedNumbers (x : ByteArray × List Int × List Int) : Nat := x.1.size + (bulk_Numbers (x.2.1, x.2.2))
theorem szStringS_some (a : List ByteArray) (left : Int) (hs : smL (fun x => x.size ≤ 140737488355328) a) (h0 : 0 ≤ left) (h1 : left ≤ 1048576) : laws_szStringS a left = some (if ((bulkL ByteArray.size a : Nat) : Int) ≤ left then left - ((bulkL ByteArray.size a : Nat) : Int) else -1) := by
  have hl := hs.1
  have key := fun (h0 : 0 ≤ left - (a.length : Int)) => sz_loop a ByteArray.size (fun left i => laws_szStringS_l5 a left i) (fun left => by rw [laws_szStringS_l5_eq, sif_f (by omega)]) (fun i x left hx hi h0 h1 => by
    have hx' : x.size ≤ 140737488355328 := hs.2 x (mem_of_at hx)
    rw [laws_szStringS_l5_eq, sif_t (by omega), idx_some hx, sbind_some, wi64_id (by omega) (by omega), wi64_add1 (by omega)]
    by_cases c : (x.size : Int) ≤ left
    · rw [if_pos c, sif_f (by omega)]
    · rw [if_neg c, sif_t (by omega)]) (left - (a.length : Int)) h0 (by omega)
  rw [laws_szStringS_eq, wi64_id (by omega) (by omega)]
  by_cases c : (a.length : Int) ≤ left
  · rw [sif_f (by omega), key (by omega)]
    unfold bulkL
    by_cases c2 : (((a.map ByteArray.size).sum : Nat) : Int) ≤ left - a.length
    · rw [if_pos c2, if_pos (by omega)]; congr 1; omega
    · rw [if_neg c2, if_neg (by omega)]
  · rw [sif_t (by omega), if_neg (by have := bulk_len ByteArray.size a; omega)]
def sm_Put (x : Int × ByteArray) : Prop := x.2.size ≤ 140737488355328
theorem szPut_some (x : Int × ByteArray) (left : Int) (hs : sm_Put x) (h0 : 0 ≤ left) (h1 : left ≤ 1048576) : laws_szPut x.1 x.2 left = some (if ((bulk_Put x : Nat) : Int) ≤ left then left - ((bulk_Put x : Nat) : Int) else -1) := by
  have hb : ((bulk_Put x : Nat) : Int) = ((x.2.size : Nat) : Int) := by unfold bulk_Put; omega
  unfold sm_Put at hs
  have s0 := hs
  rw [laws_szPut_eq]
  rw [wi64_id (by omega) (by omega)]
  by_cases c0 : ((x.2.size : Nat) : Int) ≤ left
  · rw [sif_f (by omega)]
    rw [if_pos (by omega)]; exact congrArg some (by omega)
  · rw [sif_t (by omega), if_neg (by omega)]
theorem szPutS_some (a : List (Int × ByteArray)) (left : Int) (hs : smL sm_Put a) (h0 : 0 ≤ left) (h1 : left ≤ 1048576) : laws_szPutS a left = some (if ((bulkL bulk_Put a : Nat) : Int) ≤ left then left - ((bulkL bulk_Put a : Nat) : Int) else -1) := by
  have hl := hs.1
  have key := fun (h0 : 0 ≤ left - (a.length : Int)) => sz_loop a bulk_Put (fun left i => laws_szPutS_l5 a left i) (fun left => by rw [laws_szPutS_l5_eq, sif_f (by omega)]) (fun i x left hx hi h0 h1 => by
    have hb : laws_szPutS_l5 a left (i : Int) = sbind (laws_szPut x.1 x.2 left) (fun r => sif (decide (r < 0)) (some (-1)) (laws_szPutS_l5 a r (wi64 ((i : Int) + 1)))) := by rw [laws_szPutS_l5_eq, sif_t (by omega), idx_some hx, sbind_some]
    rw [hb, szPut_some x left (hs.2 x (mem_of_at hx)) h0 h1, sbind_some, wi64_add1 (by omega)]
    by_cases c : ((bulk_Put x : Nat) : Int) ≤ left
    · rw [if_pos c, if_pos c, sif_f (by omega)]
    · rw [if_neg c, if_neg c, sif_t (by omega)]) (left - (a.length : Int)) h0 (by omega)
  rw [laws_szPutS_eq, wi64_id (by omega) (by omega)]
  by_cases c : (a.length : Int) ≤ left
  · rw [sif_f (by omega), key (by omega)]
    unfold bulkL
    by_cases c2 : (((a.map bulk_Put).sum : Nat) : Int) ≤ left - a.length
    · rw [if_pos c2, if_pos (by omega)]; congr 1; omega
    · rw [if_neg c2, if_neg (by omega)]
  · rw [sif_t (by omega), if_neg (by have := bulk_len bulk_Put a; omega)]
def sm_Disk (x : List ByteArray × List (Int × ByteArray) × Int × Bool) : Prop := (smL (fun x => x.size ≤ 140737488355328) x.1) ∧ (smL sm_Put x.2.1)
theorem szDisk_some (x : List ByteArray × List (Int × ByteArray) × Int × Bool) (left : Int) (hs : sm_Disk x) (h0 : 0 ≤ left) (h1 : left ≤ 1048576) : laws_szDisk x.1 x.2.1 x.2.2.1 x.2.2.2 left = some (if ((bulk_Disk x : Nat) : Int) ≤ left then left - ((bulk_Disk x : Nat) : Int) else -1) := by
  have hb : ((bulk_Disk x : Nat) : Int) = ((bulkL ByteArray.size x.1 : Nat) : Int) + ((bulkL bulk_Put x.2.1 : Nat) : Int) := by unfold bulk_Disk; omega
  unfold sm_Disk at hs
  obtain ⟨s0, s1⟩ := hs
  rw [laws_szDisk_eq]
  rw [szStringS_some x.1 (left) s0 (by omega) (by omega), sbind_some]
  by_cases c0 : ((bulkL ByteArray.size x.1 : Nat) : Int) ≤ left
  · rw [if_pos c0, sif_f (by omega)]
    rw [szPutS_some x.2.1 (left - ((bulkL ByteArray.size x.1 : Nat) : Int)) s1 (by omega) (by omega), sbind_some]
    by_cases c1 : ((bulkL bulk_Put x.2.1 : Nat) : Int) ≤ left - ((bulkL ByteArray.size x.1 : Nat) : Int)
    · rw [if_pos c1, sif_f (by omega)]
      rw [if_pos (by omega)]; exact congrArg some (by omega)
    · rw [if_neg c1, sif_t (by omega), if_neg (by omega)]
  · rw [if_neg c0, sif_t (by omega), if_neg (by omega)]
def sm_Page (x : Int × ByteArray) : Prop := x.2.size ≤ 140737488355328
theorem szPage_some (x : Int × ByteArray) (left : Int) (hs : sm_Page x) (h0 : 0 ≤ left) (h1 : left ≤ 1048576) : laws_szPage x.1 x.2 left = some (if ((bulk_Page x : Nat) : Int) ≤ left then left - ((bulk_Page x : Nat) : Int) else -1) := by
  have hb : ((bulk_Page x : Nat) : Int) = ((x.2.size : Nat) : Int) := by unfold bulk_Page; omega
  unfold sm_Page at hs
  have s0 := hs
  rw [laws_szPage_eq]
  rw [wi64_id (by omega) (by omega)]
  by_cases c0 : ((x.2.size : Nat) : Int) ≤ left
  · rw [sif_f (by omega)]
    rw [if_pos (by omega)]; exact congrArg some (by omega)
  · rw [sif_t (by omega), if_neg (by omega)]
theorem szPageS_some (a : List (Int × ByteArray)) (left : Int) (hs : smL sm_Page a) (h0 : 0 ≤ left) (h1 : left ≤ 1048576) : laws_szPageS a left = some (if ((bulkL bulk_Page a : Nat) : Int) ≤ left then left - ((bulkL bulk_Page a : Nat) : Int) else -1) := by
  have hl := hs.1
  have key := fun (h0 : 0 ≤ left - (a.length : Int)) => sz_loop a bulk_Page (fun left i => laws_szPageS_l5 a left i) (fun left => by rw [laws_szPageS_l5_eq, sif_f (by omega)]) (fun i x left hx hi h0 h1 => by
    have hb : laws_szPageS_l5 a left (i : Int) = sbind (laws_szPage x.1 x.2 left) (fun r => sif (decide (r < 0)) (some (-1)) (laws_szPageS_l5 a r (wi64 ((i : Int) + 1)))) := by rw [laws_szPageS_l5_eq, sif_t (by omega), idx_some hx, sbind_some]
    rw [hb, szPage_some x left (hs.2 x (mem_of_at hx)) h0 h1, sbind_some, wi64_add1 (by omega)]
    by_cases c : ((bulk_Page x : Nat) : Int) ≤ left
    · rw [if_pos c, if_pos c, sif_f (by omega)]
    · rw [if_neg c, if_neg c, sif_t (by omega)]) (left - (a.length : Int)) h0 (by omega)
  rw [laws_szPageS_eq, wi64_id (by omega) (by omega)]
  by_cases c : (a.length : Int) ≤ left
  · rw [sif_f (by omega), key (by omega)]
    unfold bulkL
    by_cases c2 : (((a.map bulk_Page).sum : Nat) : Int) ≤ left - a.length
    · rw [if_pos c2, if_pos (by omega)]; congr 1; omega
    · rw [if_neg c2, if_neg (by omega)]
  · rw [sif_t (by omega), if_neg (by have := bulk_len bulk_Page a; omega)]
def sm_Pager (x : List ByteArray × List (Int × ByteArray) × Int × Bool × Int × Int × Int × Int × Int × Int × List (Int × ByteArray) × List (Int × ByteArray)) : Prop := (sm_Disk (x.1, x.2.1, x.2.2.1, x.2.2.2.1)) ∧ (smL sm_Page x.2.2.2.2.2.2.2.2.2.2.1) ∧ (smL sm_Page x.2.2.2.2.2.2.2.2.2.2.2)
theorem szPager_some (x : List ByteArray × List (Int × ByteArray) × Int × Bool × Int × Int × Int × Int × Int × Int × List (Int × ByteArray) × List (Int × ByteArray)) (left : Int) (hs : sm_Pager x) (h0 : 0 ≤ left) (h1 : left ≤ 1048576) : laws_szPager x.1 x.2.1 x.2.2.1 x.2.2.2.1 x.2.2.2.2.1 x.2.2.2.2.2.1 x.2.2.2.2.2.2.1 x.2.2.2.2.2.2.2.1 x.2.2.2.2.2.2.2.2.1 x.2.2.2.2.2.2.2.2.2.1 x.2.2.2.2.2.2.2.2.2.2.1 x.2.2.2.2.2.2.2.2.2.2.2 left = some (if ((bulk_Pager x : Nat) : Int) ≤ left then left - ((bulk_Pager x : Nat) : Int) else -1) := by
  have hb : ((bulk_Pager x : Nat) : Int) = ((bulk_Disk (x.1, x.2.1, x.2.2.1, x.2.2.2.1) : Nat) : Int) + ((bulkL bulk_Page x.2.2.2.2.2.2.2.2.2.2.1 : Nat) : Int) + ((bulkL bulk_Page x.2.2.2.2.2.2.2.2.2.2.2 : Nat) : Int) := by unfold bulk_Pager; omega
  unfold sm_Pager at hs
  obtain ⟨s0, s1, s2⟩ := hs
  rw [laws_szPager_eq]
  rw [szDisk_some (x.1, x.2.1, x.2.2.1, x.2.2.2.1) (left) s0 (by omega) (by omega), sbind_some]
  by_cases c0 : ((bulk_Disk (x.1, x.2.1, x.2.2.1, x.2.2.2.1) : Nat) : Int) ≤ left
  · rw [if_pos c0, sif_f (by omega)]
    rw [szPageS_some x.2.2.2.2.2.2.2.2.2.2.1 (left - ((bulk_Disk (x.1, x.2.1, x.2.2.1, x.2.2.2.1) : Nat) : Int)) s1 (by omega) (by omega), sbind_some]
    by_cases c1 : ((bulkL bulk_Page x.2.2.2.2.2.2.2.2.2.2.1 : Nat) : Int) ≤ left - ((bulk_Disk (x.1, x.2.1, x.2.2.1, x.2.2.2.1) : Nat) : Int)
    · rw [if_pos c1, sif_f (by omega)]
      rw [szPageS_some x.2.2.2.2.2.2.2.2.2.2.2 (left - ((bulk_Disk (x.1, x.2.1, x.2.2.1, x.2.2.2.1) : Nat) : Int) - ((bulkL bulk_Page x.2.2.2.2.2.2.2.2.2.2.1 : Nat) : Int)) s2 (by omega) (by omega), sbind_some]
      by_cases c2 : ((bulkL bulk_Page x.2.2.2.2.2.2.2.2.2.2.2 : Nat) : Int) ≤ left - ((bulk_Disk (x.1, x.2.1, x.2.2.1, x.2.2.2.1) : Nat) : Int) - ((bulkL bulk_Page x.2.2.2.2.2.2.2.2.2.2.1 : Nat) : Int)
      · rw [if_pos c2, sif_f (by omega)]
        rw [if_pos (by omega)]; exact congrArg some (by omega)
      · rw [if_neg c2, sif_t (by omega), if_neg (by omega)]
    · rw [if_neg c1, sif_t (by omega), if_neg (by omega)]
  · rw [if_neg c0, sif_t (by omega), if_neg (by omega)]
def sm_Store (x : List ByteArray × List (Int × ByteArray) × Int × Bool × Int × Int × Int × Int × Int × Int × List (Int × ByteArray) × List (Int × ByteArray)) : Prop := sm_Pager (x.1, x.2.1, x.2.2.1, x.2.2.2.1, x.2.2.2.2.1, x.2.2.2.2.2.1, x.2.2.2.2.2.2.1, x.2.2.2.2.2.2.2.1, x.2.2.2.2.2.2.2.2.1, x.2.2.2.2.2.2.2.2.2.1, x.2.2.2.2.2.2.2.2.2.2.1, x.2.2.2.2.2.2.2.2.2.2.2)
theorem szStore_some (x : List ByteArray × List (Int × ByteArray) × Int × Bool × Int × Int × Int × Int × Int × Int × List (Int × ByteArray) × List (Int × ByteArray)) (left : Int) (hs : sm_Store x) (h0 : 0 ≤ left) (h1 : left ≤ 1048576) : laws_szStore x.1 x.2.1 x.2.2.1 x.2.2.2.1 x.2.2.2.2.1 x.2.2.2.2.2.1 x.2.2.2.2.2.2.1 x.2.2.2.2.2.2.2.1 x.2.2.2.2.2.2.2.2.1 x.2.2.2.2.2.2.2.2.2.1 x.2.2.2.2.2.2.2.2.2.2.1 x.2.2.2.2.2.2.2.2.2.2.2 left = some (if ((bulk_Store x : Nat) : Int) ≤ left then left - ((bulk_Store x : Nat) : Int) else -1) := by
  have hb : ((bulk_Store x : Nat) : Int) = ((bulk_Pager (x.1, x.2.1, x.2.2.1, x.2.2.2.1, x.2.2.2.2.1, x.2.2.2.2.2.1, x.2.2.2.2.2.2.1, x.2.2.2.2.2.2.2.1, x.2.2.2.2.2.2.2.2.1, x.2.2.2.2.2.2.2.2.2.1, x.2.2.2.2.2.2.2.2.2.2.1, x.2.2.2.2.2.2.2.2.2.2.2) : Nat) : Int) := by unfold bulk_Store; omega
  unfold sm_Store at hs
  have s0 := hs
  rw [laws_szStore_eq]
  rw [szPager_some (x.1, x.2.1, x.2.2.1, x.2.2.2.1, x.2.2.2.2.1, x.2.2.2.2.2.1, x.2.2.2.2.2.2.1, x.2.2.2.2.2.2.2.1, x.2.2.2.2.2.2.2.2.1, x.2.2.2.2.2.2.2.2.2.1, x.2.2.2.2.2.2.2.2.2.2.1, x.2.2.2.2.2.2.2.2.2.2.2) (left) s0 (by omega) (by omega), sbind_some]
  by_cases c0 : ((bulk_Pager (x.1, x.2.1, x.2.2.1, x.2.2.2.1, x.2.2.2.2.1, x.2.2.2.2.2.1, x.2.2.2.2.2.2.1, x.2.2.2.2.2.2.2.1, x.2.2.2.2.2.2.2.2.1, x.2.2.2.2.2.2.2.2.2.1, x.2.2.2.2.2.2.2.2.2.2.1, x.2.2.2.2.2.2.2.2.2.2.2) : Nat) : Int) ≤ left
  · rw [if_pos c0, sif_f (by omega)]
    rw [if_pos (by omega)]; exact congrArg some (by omega)
  · rw [if_neg c0, sif_t (by omega), if_neg (by omega)]
theorem szInt64S_some (a : List Int) (left : Int) (hs : a.length ≤ 140737488355328) (h0 : 0 ≤ left) (h1 : left ≤ 1048576) : laws_szInt64S a left = some (if ((a.length : Nat) : Int) ≤ left then left - ((a.length : Nat) : Int) else -1) := by
  have hl : a.length ≤ 140737488355328 := hs
  rw [laws_szInt64S_eq, wi64_id (by omega) (by omega)]
  by_cases c : (a.length : Int) ≤ left
  · rw [if_pos c, sif_f (by omega)]
  · rw [if_neg c, sif_t (by omega)]
def sm_Numbers (x : List Int × List Int) : Prop := (x.1.length ≤ 140737488355328) ∧ (x.2.length ≤ 140737488355328)
theorem szNumbers_some (x : List Int × List Int) (left : Int) (hs : sm_Numbers x) (h0 : 0 ≤ left) (h1 : left ≤ 1048576) : laws_szNumbers x.1 x.2 left = some (if ((bulk_Numbers x : Nat) : Int) ≤ left then left - ((bulk_Numbers x : Nat) : Int) else -1) := by
  have hb : ((bulk_Numbers x : Nat) : Int) = ((x.1.length : Nat) : Int) + ((x.2.length : Nat) : Int) := by unfold bulk_Numbers; omega
  unfold sm_Numbers at hs
  obtain ⟨s0, s1⟩ := hs
  rw [laws_szNumbers_eq]
  rw [szInt64S_some x.1 (left) s0 (by omega) (by omega), sbind_some]
  by_cases c0 : ((x.1.length : Nat) : Int) ≤ left
  · rw [if_pos c0, sif_f (by omega)]
    rw [szInt64S_some x.2 (left - ((x.1.length : Nat) : Int)) s1 (by omega) (by omega), sbind_some]
    by_cases c1 : ((x.2.length : Nat) : Int) ≤ left - ((x.1.length : Nat) : Int)
    · rw [if_pos c1, sif_f (by omega)]
      rw [if_pos (by omega)]; exact congrArg some (by omega)
    · rw [if_neg c1, sif_t (by omega), if_neg (by omega)]
  · rw [if_neg c0, sif_t (by omega), if_neg (by omega)]
def sm_NamedNumbers (x : ByteArray × List Int × List Int) : Prop := (x.1.size ≤ 140737488355328) ∧ (sm_Numbers (x.2.1, x.2.2))
theorem szNamedNumbers_some (x : ByteArray × List Int × List Int) (left : Int) (hs : sm_NamedNumbers x) (h0 : 0 ≤ left) (h1 : left ≤ 1048576) : laws_szNamedNumbers x.1 x.2.1 x.2.2 left = some (if ((bulk_NamedNumbers x : Nat) : Int) ≤ left then left - ((bulk_NamedNumbers x : Nat) : Int) else -1) := by
  have hb : ((bulk_NamedNumbers x : Nat) : Int) = ((x.1.size : Nat) : Int) + ((bulk_Numbers (x.2.1, x.2.2) : Nat) : Int) := by unfold bulk_NamedNumbers; omega
  unfold sm_NamedNumbers at hs
  obtain ⟨s0, s1⟩ := hs
  rw [laws_szNamedNumbers_eq]
  rw [wi64_id (by omega) (by omega)]
  by_cases c0 : ((x.1.size : Nat) : Int) ≤ left
  · rw [sif_f (by omega)]
    rw [szNumbers_some (x.2.1, x.2.2) (left - ((x.1.size : Nat) : Int)) s1 (by omega) (by omega), sbind_some]
    by_cases c1 : ((bulk_Numbers (x.2.1, x.2.2) : Nat) : Int) ≤ left - ((x.1.size : Nat) : Int)
    · rw [if_pos c1, sif_f (by omega)]
      rw [if_pos (by omega)]; exact congrArg some (by omega)
    · rw [if_neg c1, sif_t (by omega), if_neg (by omega)]
  · rw [sif_t (by omega), if_neg (by omega)]
theorem szNamedNumbersS_some (a : List (ByteArray × List Int × List Int)) (left : Int) (hs : smL sm_NamedNumbers a) (h0 : 0 ≤ left) (h1 : left ≤ 1048576) : laws_szNamedNumbersS a left = some (if ((bulkL bulk_NamedNumbers a : Nat) : Int) ≤ left then left - ((bulkL bulk_NamedNumbers a : Nat) : Int) else -1) := by
  have hl := hs.1
  have key := fun (h0 : 0 ≤ left - (a.length : Int)) => sz_loop a bulk_NamedNumbers (fun left i => laws_szNamedNumbersS_l5 a left i) (fun left => by rw [laws_szNamedNumbersS_l5_eq, sif_f (by omega)]) (fun i x left hx hi h0 h1 => by
    have hb : laws_szNamedNumbersS_l5 a left (i : Int) = sbind (laws_szNamedNumbers x.1 x.2.1 x.2.2 left) (fun r => sif (decide (r < 0)) (some (-1)) (laws_szNamedNumbersS_l5 a r (wi64 ((i : Int) + 1)))) := by rw [laws_szNamedNumbersS_l5_eq, sif_t (by omega), idx_some hx, sbind_some]
    rw [hb, szNamedNumbers_some x left (hs.2 x (mem_of_at hx)) h0 h1, sbind_some, wi64_add1 (by omega)]
    by_cases c : ((bulk_NamedNumbers x : Nat) : Int) ≤ left
    · rw [if_pos c, if_pos c, sif_f (by omega)]
    · rw [if_neg c, if_neg c, sif_t (by omega)]) (left - (a.length : Int)) h0 (by omega)
  rw [laws_szNamedNumbersS_eq, wi64_id (by omega) (by omega)]
  by_cases c : (a.length : Int) ≤ left
  · rw [sif_f (by omega), key (by omega)]
    unfold bulkL
    by_cases c2 : (((a.map bulk_NamedNumbers).sum : Nat) : Int) ≤ left - a.length
    · rw [if_pos c2, if_pos (by omega)]; congr 1; omega
    · rw [if_neg c2, if_neg (by omega)]
  · rw [sif_t (by omega), if_neg (by have := bulk_len bulk_NamedNumbers a; omega)]
def bulk_Shell (x : List ByteArray × List (Int × ByteArray) × Int × Bool × Int × Int × Int × Int × Int × Int × List (Int × ByteArray) × List (Int × ByteArray) × List (ByteArray × List Int × List Int)) : Nat := (bulk_Store (x.1, x.2.1, x.2.2.1, x.2.2.2.1, x.2.2.2.2.1, x.2.2.2.2.2.1, x.2.2.2.2.2.2.1, x.2.2.2.2.2.2.2.1, x.2.2.2.2.2.2.2.2.1, x.2.2.2.2.2.2.2.2.2.1, x.2.2.2.2.2.2.2.2.2.2.1, x.2.2.2.2.2.2.2.2.2.2.2.1)) + (bulkL bulk_NamedNumbers x.2.2.2.2.2.2.2.2.2.2.2.2)
def sm_Shell (x : List ByteArray × List (Int × ByteArray) × Int × Bool × Int × Int × Int × Int × Int × Int × List (Int × ByteArray) × List (Int × ByteArray) × List (ByteArray × List Int × List Int)) : Prop := (sm_Store (x.1, x.2.1, x.2.2.1, x.2.2.2.1, x.2.2.2.2.1, x.2.2.2.2.2.1, x.2.2.2.2.2.2.1, x.2.2.2.2.2.2.2.1, x.2.2.2.2.2.2.2.2.1, x.2.2.2.2.2.2.2.2.2.1, x.2.2.2.2.2.2.2.2.2.2.1, x.2.2.2.2.2.2.2.2.2.2.2.1)) ∧ (smL sm_NamedNumbers x.2.2.2.2.2.2.2.2.2.2.2.2)
theorem szShell_some (x : List ByteArray × List (Int × ByteArray) × Int × Bool × Int × Int × Int × Int × Int × Int × List (Int × ByteArray) × List (Int × ByteArray) × List (ByteArray × List Int × List Int)) (left : Int) (hs : sm_Shell x) (h0 : 0 ≤ left) (h1 : left ≤ 1048576) : laws_szShell x.1 x.2.1 x.2.2.1 x.2.2.2.1 x.2.2.2.2.1 x.2.2.2.2.2.1 x.2.2.2.2.2.2.1 x.2.2.2.2.2.2.2.1 x.2.2.2.2.2.2.2.2.1 x.2.2.2.2.2.2.2.2.2.1 x.2.2.2.2.2.2.2.2.2.2.1 x.2.2.2.2.2.2.2.2.2.2.2.1 x.2.2.2.2.2.2.2.2.2.2.2.2 left = some (if ((bulk_Shell x : Nat) : Int) ≤ left then left - ((bulk_Shell x : Nat) : Int) else -1) := by
  have hb : ((bulk_Shell x : Nat) : Int) = ((bulk_Store (x.1, x.2.1, x.2.2.1, x.2.2.2.1, x.2.2.2.2.1, x.2.2.2.2.2.1, x.2.2.2.2.2.2.1, x.2.2.2.2.2.2.2.1, x.2.2.2.2.2.2.2.2.1, x.2.2.2.2.2.2.2.2.2.1, x.2.2.2.2.2.2.2.2.2.2.1, x.2.2.2.2.2.2.2.2.2.2.2.1) : Nat) : Int) + ((bulkL bulk_NamedNumbers x.2.2.2.2.2.2.2.2.2.2.2.2 : Nat) : Int) := by unfold bulk_Shell; omega
  unfold sm_Shell at hs
  obtain ⟨s0, s1⟩ := hs
  rw [laws_szShell_eq]
  rw [szStore_some (x.1, x.2.1, x.2.2.1, x.2.2.2.1, x.2.2.2.2.1, x.2.2.2.2.2.1, x.2.2.2.2.2.2.1, x.2.2.2.2.2.2.2.1, x.2.2.2.2.2.2.2.2.1, x.2.2.2.2.2.2.2.2.2.1, x.2.2.2.2.2.2.2.2.2.2.1, x.2.2.2.2.2.2.2.2.2.2.2.1) (left) s0 (by omega) (by omega), sbind_some]
  by_cases c0 : ((bulk_Store (x.1, x.2.1, x.2.2.1, x.2.2.2.1, x.2.2.2.2.1, x.2.2.2.2.2.1, x.2.2.2.2.2.2.1, x.2.2.2.2.2.2.2.1, x.2.2.2.2.2.2.2.2.1, x.2.2.2.2.2.2.2.2.2.1, x.2.2.2.2.2.2.2.2.2.2.1, x.2.2.2.2.2.2.2.2.2.2.2.1) : Nat) : Int) ≤ left
  · rw [if_pos c0, sif_f (by omega)]
    rw [szNamedNumbersS_some x.2.2.2.2.2.2.2.2.2.2.2.2 (left - ((bulk_Store (x.1, x.2.1, x.2.2.1, x.2.2.2.1, x.2.2.2.2.1, x.2.2.2.2.2.1, x.2.2.2.2.2.2.1, x.2.2.2.2.2.2.2.1, x.2.2.2.2.2.2.2.2.1, x.2.2.2.2.2.2.2.2.2.1, x.2.2.2.2.2.2.2.2.2.2.1, x.2.2.2.2.2.2.2.2.2.2.2.1) : Nat) : Int)) s1 (by omega) (by omega), sbind_some]
    by_cases c1 : ((bulkL bulk_NamedNumbers x.2.2.2.2.2.2.2.2.2.2.2.2 : Nat) : Int) ≤ left - ((bulk_Store (x.1, x.2.1, x.2.2.1, x.2.2.2.1, x.2.2.2.2.1, x.2.2.2.2.2.1, x.2.2.2.2.2.2.1, x.2.2.2.2.2.2.2.1, x.2.2.2.2.2.2.2.2.1, x.2.2.2.2.2.2.2.2.2.1, x.2.2.2.2.2.2.2.2.2.2.1, x.2.2.2.2.2.2.2.2.2.2.2.1) : Nat) : Int)
    · rw [if_pos c1, sif_f (by omega)]
      rw [if_pos (by omega)]; exact congrArg some (by omega)
    · rw [if_neg c1, sif_t (by omega), if_neg (by omega)]
  · rw [if_neg c0, sif_t (by omega), if_neg (by omega)]
theorem toStringS_some (a : List ByteArray) (hb : bulkL ByteArray.size a ≤ 1048576) : laws_toStringS a = some a := by
  have hl : a.length ≤ 1048576 := Nat.le_trans (bulk_len ByteArray.size a) hb
  have key := loop_fill a id (fun i out => laws_toStringS_l3 a i out) id (fun out ho => by rw [laws_toStringS_l3_eq, sif_f (by omega)]; rfl) (fun i x out hx hi ho => by
    rw [laws_toStringS_l3_eq, sif_t (by omega), idx_some hx, sbind_some, sif_pos (lt3_ok (by omega) (by omega)), wi64_add1 (by omega)]
    rfl) (List.replicate a.length (bs [])) (by simp)
  rw [laws_toStringS_eq, sif_pos (by rw [le3_ok (by omega) (by omega), room_ok (by omega)]; rfl)]
  simpa using key
theorem toPut_some (x : Int × ByteArray) (hb : bulk_Put x ≤ 1048576) : laws_toPut x.1 x.2 = some (x.1, x.2) := by
  unfold bulk_Put at hb
  rw [laws_toPut_eq]
theorem toPutS_some (a : List (Int × ByteArray)) (hb : bulkL bulk_Put a ≤ 1048576) : laws_toPutS a = some a := by
  have hl : a.length ≤ 1048576 := Nat.le_trans (bulk_len bulk_Put a) hb
  have key := loop_fill a id (fun i out => laws_toPutS_l3 a i out) id (fun out ho => by rw [laws_toPutS_l3_eq, sif_f (by omega)]; rfl) (fun i x out hx hi ho => by
    rw [laws_toPutS_l3_eq, sif_t (by omega), idx_some hx, sbind_some, toPut_some x (Nat.le_trans (bulk_mem (mem_of_at hx)) hb), sbind_some, sif_pos (lt3_ok (by omega) (by omega)), wi64_add1 (by omega)]
    rfl) (List.replicate a.length ((0, (bs [])) : Int × ByteArray)) (by simp)
  rw [laws_toPutS_eq, sif_pos (by rw [le3_ok (by omega) (by omega), room_ok (by omega)]; rfl)]
  simpa using key
theorem toDisk_some (x : List ByteArray × List (Int × ByteArray) × Int × Bool) (hb : bulk_Disk x ≤ 1048576) : laws_toDisk x.1 x.2.1 x.2.2.1 x.2.2.2 = some (x.2.2.1, x.2.2.2, x.1, x.2.1) := by
  unfold bulk_Disk at hb
  rw [laws_toDisk_eq, toStringS_some x.1 (by omega), sbind_some, toPutS_some x.2.1 (by omega), sbind_some]
theorem toSuper_some (x : Int × Int × Int × Int) : laws_toSuper x.1 x.2.1 x.2.2.1 x.2.2.2 = some (x.1, x.2.1, x.2.2.1, x.2.2.2) := by
  rw [laws_toSuper_eq]
theorem toPage_some (x : Int × ByteArray) (hb : bulk_Page x ≤ 1048576) : laws_toPage x.1 x.2 = some (x.1, x.2) := by
  unfold bulk_Page at hb
  rw [laws_toPage_eq]
theorem toPageS_some (a : List (Int × ByteArray)) (hb : bulkL bulk_Page a ≤ 1048576) : laws_toPageS a = some a := by
  have hl : a.length ≤ 1048576 := Nat.le_trans (bulk_len bulk_Page a) hb
  have key := loop_fill a id (fun i out => laws_toPageS_l3 a i out) id (fun out ho => by rw [laws_toPageS_l3_eq, sif_f (by omega)]; rfl) (fun i x out hx hi ho => by
    rw [laws_toPageS_l3_eq, sif_t (by omega), idx_some hx, sbind_some, toPage_some x (Nat.le_trans (bulk_mem (mem_of_at hx)) hb), sbind_some, sif_pos (lt3_ok (by omega) (by omega)), wi64_add1 (by omega)]
    rfl) (List.replicate a.length ((0, (bs [])) : Int × ByteArray)) (by simp)
  rw [laws_toPageS_eq, sif_pos (by rw [le3_ok (by omega) (by omega), room_ok (by omega)]; rfl)]
  simpa using key
theorem toPager_some (x : List ByteArray × List (Int × ByteArray) × Int × Bool × Int × Int × Int × Int × Int × Int × List (Int × ByteArray) × List (Int × ByteArray)) (hb : bulk_Pager x ≤ 1048576) : laws_toPager x.1 x.2.1 x.2.2.1 x.2.2.2.1 x.2.2.2.2.1 x.2.2.2.2.2.1 x.2.2.2.2.2.2.1 x.2.2.2.2.2.2.2.1 x.2.2.2.2.2.2.2.2.1 x.2.2.2.2.2.2.2.2.2.1 x.2.2.2.2.2.2.2.2.2.2.1 x.2.2.2.2.2.2.2.2.2.2.2 = some (x.2.2.1, x.2.2.2.1, x.2.2.2.2.1, x.2.2.2.2.2.1, x.2.2.2.2.2.2.1, x.2.2.2.2.2.2.2.1, x.2.2.2.2.2.2.2.2.1, x.2.2.2.2.2.2.2.2.2.1, x.1, x.2.1, x.2.2.2.2.2.2.2.2.2.2.1, x.2.2.2.2.2.2.2.2.2.2.2) := by
  unfold bulk_Pager at hb
  rw [laws_toPager_eq, toDisk_some (x.1, x.2.1, x.2.2.1, x.2.2.2.1) (by omega), sbind_some, toSuper_some (x.2.2.2.2.1, x.2.2.2.2.2.1, x.2.2.2.2.2.2.1, x.2.2.2.2.2.2.2.1), sbind_some, toPageS_some x.2.2.2.2.2.2.2.2.2.2.1 (by omega), sbind_some, toPageS_some x.2.2.2.2.2.2.2.2.2.2.2 (by omega), sbind_some]
theorem toStore_some (x : List ByteArray × List (Int × ByteArray) × Int × Bool × Int × Int × Int × Int × Int × Int × List (Int × ByteArray) × List (Int × ByteArray)) (hb : bulk_Store x ≤ 1048576) : laws_toStore x.1 x.2.1 x.2.2.1 x.2.2.2.1 x.2.2.2.2.1 x.2.2.2.2.2.1 x.2.2.2.2.2.2.1 x.2.2.2.2.2.2.2.1 x.2.2.2.2.2.2.2.2.1 x.2.2.2.2.2.2.2.2.2.1 x.2.2.2.2.2.2.2.2.2.2.1 x.2.2.2.2.2.2.2.2.2.2.2 = some (x.2.2.1, x.2.2.2.1, x.2.2.2.2.1, x.2.2.2.2.2.1, x.2.2.2.2.2.2.1, x.2.2.2.2.2.2.2.1, x.2.2.2.2.2.2.2.2.1, x.2.2.2.2.2.2.2.2.2.1, x.1, x.2.1, x.2.2.2.2.2.2.2.2.2.2.1, x.2.2.2.2.2.2.2.2.2.2.2) := by
  unfold bulk_Store at hb
  rw [laws_toStore_eq, toPager_some (x.1, x.2.1, x.2.2.1, x.2.2.2.1, x.2.2.2.2.1, x.2.2.2.2.2.1, x.2.2.2.2.2.2.1, x.2.2.2.2.2.2.2.1, x.2.2.2.2.2.2.2.2.1, x.2.2.2.2.2.2.2.2.2.1, x.2.2.2.2.2.2.2.2.2.2.1, x.2.2.2.2.2.2.2.2.2.2.2) (by omega), sbind_some]
theorem toInt64S_some (a : List Int) (hb : a.length ≤ 1048576) : laws_toInt64S a = some a := by
  have hl : a.length ≤ 1048576 := hb
  have key := loop_fill a id (fun i out => laws_toInt64S_l3 a i out) id (fun out ho => by rw [laws_toInt64S_l3_eq, sif_f (by omega)]; rfl) (fun i x out hx hi ho => by
    rw [laws_toInt64S_l3_eq, sif_t (by omega), idx_some hx, sbind_some, sif_pos (lt3_ok (by omega) (by omega)), wi64_add1 (by omega)]
    rfl) (List.replicate a.length (0 : Int)) (by simp)
  rw [laws_toInt64S_eq, sif_pos (by rw [le3_ok (by omega) (by omega), room_ok (by omega)]; rfl)]
  simpa using key
theorem toNumbers_some (x : List Int × List Int) (hb : bulk_Numbers x ≤ 1048576) : laws_toNumbers x.1 x.2 = some (x.1, x.2) := by
  unfold bulk_Numbers at hb
  rw [laws_toNumbers_eq, toInt64S_some x.1 (by omega), sbind_some, toInt64S_some x.2 (by omega), sbind_some]
theorem toNamedNumbers_some (x : ByteArray × List Int × List Int) (hb : bulk_NamedNumbers x ≤ 1048576) : laws_toNamedNumbers x.1 x.2.1 x.2.2 = some (x.1, x.2.1, x.2.2) := by
  unfold bulk_NamedNumbers at hb
  rw [laws_toNamedNumbers_eq, toNumbers_some (x.2.1, x.2.2) (by omega), sbind_some]
theorem toNamedNumbersS_some (a : List (ByteArray × List Int × List Int)) (hb : bulkL bulk_NamedNumbers a ≤ 1048576) : laws_toNamedNumbersS a = some a := by
  have hl : a.length ≤ 1048576 := Nat.le_trans (bulk_len bulk_NamedNumbers a) hb
  have key := loop_fill a id (fun i out => laws_toNamedNumbersS_l3 a i out) id (fun out ho => by rw [laws_toNamedNumbersS_l3_eq, sif_f (by omega)]; rfl) (fun i x out hx hi ho => by
    rw [laws_toNamedNumbersS_l3_eq, sif_t (by omega), idx_some hx, sbind_some, toNamedNumbers_some x (Nat.le_trans (bulk_mem (mem_of_at hx)) hb), sbind_some, sif_pos (lt3_ok (by omega) (by omega)), wi64_add1 (by omega)]
    rfl) (List.replicate a.length (((bs []), [], []) : ByteArray × List Int × List Int)) (by simp)
  rw [laws_toNamedNumbersS_eq, sif_pos (by rw [le3_ok (by omega) (by omega), room_ok (by omega)]; rfl)]
  simpa using key
theorem toShell_some (x : List ByteArray × List (Int × ByteArray) × Int × Bool × Int × Int × Int × Int × Int × Int × List (Int × ByteArray) × List (Int × ByteArray) × List (ByteArray × List Int × List Int)) (hb : bulk_Shell x ≤ 1048576) : laws_toShell x.1 x.2.1 x.2.2.1 x.2.2.2.1 x.2.2.2.2.1 x.2.2.2.2.2.1 x.2.2.2.2.2.2.1 x.2.2.2.2.2.2.2.1 x.2.2.2.2.2.2.2.2.1 x.2.2.2.2.2.2.2.2.2.1 x.2.2.2.2.2.2.2.2.2.2.1 x.2.2.2.2.2.2.2.2.2.2.2.1 x.2.2.2.2.2.2.2.2.2.2.2.2 = some (x.2.2.1, x.2.2.2.1, x.2.2.2.2.1, x.2.2.2.2.2.1, x.2.2.2.2.2.2.1, x.2.2.2.2.2.2.2.1, x.2.2.2.2.2.2.2.2.1, x.2.2.2.2.2.2.2.2.2.1, x.1, x.2.1, x.2.2.2.2.2.2.2.2.2.2.1, x.2.2.2.2.2.2.2.2.2.2.2.1, x.2.2.2.2.2.2.2.2.2.2.2.2) := by
  unfold bulk_Shell at hb
  rw [laws_toShell_eq, toStore_some (x.1, x.2.1, x.2.2.1, x.2.2.2.1, x.2.2.2.2.1, x.2.2.2.2.2.1, x.2.2.2.2.2.2.1, x.2.2.2.2.2.2.2.1, x.2.2.2.2.2.2.2.2.1, x.2.2.2.2.2.2.2.2.2.1, x.2.2.2.2.2.2.2.2.2.2.1, x.2.2.2.2.2.2.2.2.2.2.2.1) (by omega), sbind_some, toNamedNumbersS_some x.2.2.2.2.2.2.2.2.2.2.2.2 (by omega), sbind_some]
theorem eqStringS_refl (a : List ByteArray) (hb : bulkL ByteArray.size a ≤ 1048576) : laws_eqStringS a a = some true := by
  have hl : a.length ≤ 1048576 := Nat.le_trans (bulk_len ByteArray.size a) hb
  have key := loop_all a (fun i => laws_eqStringS_l4 a a (i : Int)) (some true) (by rw [laws_eqStringS_l4_eq, sif_f (by omega)]) (fun i x hx hi => by
    rw [laws_eqStringS_l4_eq, sif_t (by omega), idx_some hx, sbind_some, sbind_some, seq_self, Bool.not_true, sif_false, wi64_add1 (by omega)])
  rw [laws_eqStringS_eq, bne_self_eq_false, sif_false]
  exact key
theorem eqPut_refl (x : Int × ByteArray) (hb : bulk_Put x ≤ 1048576) : laws_eqPut x.1 x.2 x.1 x.2 = some true := by
  unfold bulk_Put at hb
  rw [laws_eqPut_eq]
  simp only [seq_self, bne_self_eq_false, beq_self_eq_true, Bool.not_true, Bool.not_false, sif_false, sif_true]
theorem eqPutS_refl (a : List (Int × ByteArray)) (hb : bulkL bulk_Put a ≤ 1048576) : laws_eqPutS a a = some true := by
  have hl : a.length ≤ 1048576 := Nat.le_trans (bulk_len bulk_Put a) hb
  have key := loop_all a (fun i => laws_eqPutS_l4 a a (i : Int)) (some true) (by rw [laws_eqPutS_l4_eq, sif_f (by omega)]) (fun i x hx hi => by
    rw [laws_eqPutS_l4_eq, sif_t (by omega), idx_some hx, sbind_some, sbind_some, eqPut_refl x (Nat.le_trans (bulk_mem (mem_of_at hx)) hb), sbind_some, Bool.not_true, sif_false, wi64_add1 (by omega)])
  rw [laws_eqPutS_eq, bne_self_eq_false, sif_false]
  exact key
theorem eqDisk_refl (x : List ByteArray × List (Int × ByteArray) × Int × Bool) (hb : bulk_Disk x ≤ 1048576) : laws_eqDisk x.1 x.2.1 x.2.2.1 x.2.2.2 x.1 x.2.1 x.2.2.1 x.2.2.2 = some true := by
  unfold bulk_Disk at hb
  rw [laws_eqDisk_eq, eqStringS_refl x.1 (by omega), sbind_some, eqPutS_refl x.2.1 (by omega), sbind_some]
  simp only [seq_self, bne_self_eq_false, beq_self_eq_true, Bool.not_true, Bool.not_false, sif_false, sif_true]
theorem eqSuper_refl (x : Int × Int × Int × Int) : laws_eqSuper x.1 x.2.1 x.2.2.1 x.2.2.2 x.1 x.2.1 x.2.2.1 x.2.2.2 = some true := by
  rw [laws_eqSuper_eq]
  simp only [seq_self, bne_self_eq_false, beq_self_eq_true, Bool.not_true, Bool.not_false, sif_false, sif_true]
theorem eqPage_refl (x : Int × ByteArray) (hb : bulk_Page x ≤ 1048576) : laws_eqPage x.1 x.2 x.1 x.2 = some true := by
  unfold bulk_Page at hb
  rw [laws_eqPage_eq]
  simp only [seq_self, bne_self_eq_false, beq_self_eq_true, Bool.not_true, Bool.not_false, sif_false, sif_true]
theorem eqPageS_refl (a : List (Int × ByteArray)) (hb : bulkL bulk_Page a ≤ 1048576) : laws_eqPageS a a = some true := by
  have hl : a.length ≤ 1048576 := Nat.le_trans (bulk_len bulk_Page a) hb
  have key := loop_all a (fun i => laws_eqPageS_l4 a a (i : Int)) (some true) (by rw [laws_eqPageS_l4_eq, sif_f (by omega)]) (fun i x hx hi => by
    rw [laws_eqPageS_l4_eq, sif_t (by omega), idx_some hx, sbind_some, sbind_some, eqPage_refl x (Nat.le_trans (bulk_mem (mem_of_at hx)) hb), sbind_some, Bool.not_true, sif_false, wi64_add1 (by omega)])
  rw [laws_eqPageS_eq, bne_self_eq_false, sif_false]
  exact key
theorem eqPager_refl (x : List ByteArray × List (Int × ByteArray) × Int × Bool × Int × Int × Int × Int × Int × Int × List (Int × ByteArray) × List (Int × ByteArray)) (hb : bulk_Pager x ≤ 1048576) : laws_eqPager x.1 x.2.1 x.2.2.1 x.2.2.2.1 x.2.2.2.2.1 x.2.2.2.2.2.1 x.2.2.2.2.2.2.1 x.2.2.2.2.2.2.2.1 x.2.2.2.2.2.2.2.2.1 x.2.2.2.2.2.2.2.2.2.1 x.2.2.2.2.2.2.2.2.2.2.1 x.2.2.2.2.2.2.2.2.2.2.2 x.1 x.2.1 x.2.2.1 x.2.2.2.1 x.2.2.2.2.1 x.2.2.2.2.2.1 x.2.2.2.2.2.2.1 x.2.2.2.2.2.2.2.1 x.2.2.2.2.2.2.2.2.1 x.2.2.2.2.2.2.2.2.2.1 x.2.2.2.2.2.2.2.2.2.2.1 x.2.2.2.2.2.2.2.2.2.2.2 = some true := by
  unfold bulk_Pager at hb
  rw [laws_eqPager_eq, eqDisk_refl (x.1, x.2.1, x.2.2.1, x.2.2.2.1) (by omega), sbind_some, eqSuper_refl (x.2.2.2.2.1, x.2.2.2.2.2.1, x.2.2.2.2.2.2.1, x.2.2.2.2.2.2.2.1), sbind_some, eqPageS_refl x.2.2.2.2.2.2.2.2.2.2.1 (by omega), sbind_some, eqPageS_refl x.2.2.2.2.2.2.2.2.2.2.2 (by omega), sbind_some]
  simp only [seq_self, bne_self_eq_false, beq_self_eq_true, Bool.not_true, Bool.not_false, sif_false, sif_true]
theorem eqStore_refl (x : List ByteArray × List (Int × ByteArray) × Int × Bool × Int × Int × Int × Int × Int × Int × List (Int × ByteArray) × List (Int × ByteArray)) (hb : bulk_Store x ≤ 1048576) : laws_eqStore x.1 x.2.1 x.2.2.1 x.2.2.2.1 x.2.2.2.2.1 x.2.2.2.2.2.1 x.2.2.2.2.2.2.1 x.2.2.2.2.2.2.2.1 x.2.2.2.2.2.2.2.2.1 x.2.2.2.2.2.2.2.2.2.1 x.2.2.2.2.2.2.2.2.2.2.1 x.2.2.2.2.2.2.2.2.2.2.2 x.1 x.2.1 x.2.2.1 x.2.2.2.1 x.2.2.2.2.1 x.2.2.2.2.2.1 x.2.2.2.2.2.2.1 x.2.2.2.2.2.2.2.1 x.2.2.2.2.2.2.2.2.1 x.2.2.2.2.2.2.2.2.2.1 x.2.2.2.2.2.2.2.2.2.2.1 x.2.2.2.2.2.2.2.2.2.2.2 = some true := by
  unfold bulk_Store at hb
  rw [laws_eqStore_eq, eqPager_refl (x.1, x.2.1, x.2.2.1, x.2.2.2.1, x.2.2.2.2.1, x.2.2.2.2.2.1, x.2.2.2.2.2.2.1, x.2.2.2.2.2.2.2.1, x.2.2.2.2.2.2.2.2.1, x.2.2.2.2.2.2.2.2.2.1, x.2.2.2.2.2.2.2.2.2.2.1, x.2.2.2.2.2.2.2.2.2.2.2) (by omega), sbind_some]
  simp only [seq_self, bne_self_eq_false, beq_self_eq_true, Bool.not_true, Bool.not_false, sif_false, sif_true]
theorem eqInt64S_refl (a : List Int) (hb : a.length ≤ 1048576) : laws_eqInt64S a a = some true := by
  have hl : a.length ≤ 1048576 := hb
  have key := loop_all a (fun i => laws_eqInt64S_l4 a a (i : Int)) (some true) (by rw [laws_eqInt64S_l4_eq, sif_f (by omega)]) (fun i x hx hi => by
    rw [laws_eqInt64S_l4_eq, sif_t (by omega), idx_some hx, sbind_some, sbind_some, bne_self_eq_false, sif_false, wi64_add1 (by omega)])
  rw [laws_eqInt64S_eq, bne_self_eq_false, sif_false]
  exact key
theorem eqNumbers_refl (x : List Int × List Int) (hb : bulk_Numbers x ≤ 1048576) : laws_eqNumbers x.1 x.2 x.1 x.2 = some true := by
  unfold bulk_Numbers at hb
  rw [laws_eqNumbers_eq, eqInt64S_refl x.1 (by omega), sbind_some, eqInt64S_refl x.2 (by omega), sbind_some]
  simp only [seq_self, bne_self_eq_false, beq_self_eq_true, Bool.not_true, Bool.not_false, sif_false, sif_true]
theorem eqNamedNumbers_refl (x : ByteArray × List Int × List Int) (hb : bulk_NamedNumbers x ≤ 1048576) : laws_eqNamedNumbers x.1 x.2.1 x.2.2 x.1 x.2.1 x.2.2 = some true := by
  unfold bulk_NamedNumbers at hb
  rw [laws_eqNamedNumbers_eq, eqNumbers_refl (x.2.1, x.2.2) (by omega), sbind_some]
  simp only [seq_self, bne_self_eq_false, beq_self_eq_true, Bool.not_true, Bool.not_false, sif_false, sif_true]
theorem eqNamedNumbersS_refl (a : List (ByteArray × List Int × List Int)) (hb : bulkL bulk_NamedNumbers a ≤ 1048576) : laws_eqNamedNumbersS a a = some true := by
  have hl : a.length ≤ 1048576 := Nat.le_trans (bulk_len bulk_NamedNumbers a) hb
  have key := loop_all a (fun i => laws_eqNamedNumbersS_l4 a a (i : Int)) (some true) (by rw [laws_eqNamedNumbersS_l4_eq, sif_f (by omega)]) (fun i x hx hi => by
    rw [laws_eqNamedNumbersS_l4_eq, sif_t (by omega), idx_some hx, sbind_some, sbind_some, eqNamedNumbers_refl x (Nat.le_trans (bulk_mem (mem_of_at hx)) hb), sbind_some, Bool.not_true, sif_false, wi64_add1 (by omega)])
  rw [laws_eqNamedNumbersS_eq, bne_self_eq_false, sif_false]
  exact key
theorem eqShell_refl (x : List ByteArray × List (Int × ByteArray) × Int × Bool × Int × Int × Int × Int × Int × Int × List (Int × ByteArray) × List (Int × ByteArray) × List (ByteArray × List Int × List Int)) (hb : bulk_Shell x ≤ 1048576) : laws_eqShell x.1 x.2.1 x.2.2.1 x.2.2.2.1 x.2.2.2.2.1 x.2.2.2.2.2.1 x.2.2.2.2.2.2.1 x.2.2.2.2.2.2.2.1 x.2.2.2.2.2.2.2.2.1 x.2.2.2.2.2.2.2.2.2.1 x.2.2.2.2.2.2.2.2.2.2.1 x.2.2.2.2.2.2.2.2.2.2.2.1 x.2.2.2.2.2.2.2.2.2.2.2.2 x.1 x.2.1 x.2.2.1 x.2.2.2.1 x.2.2.2.2.1 x.2.2.2.2.2.1 x.2.2.2.2.2.2.1 x.2.2.2.2.2.2.2.1 x.2.2.2.2.2.2.2.2.1 x.2.2.2.2.2.2.2.2.2.1 x.2.2.2.2.2.2.2.2.2.2.1 x.2.2.2.2.2.2.2.2.2.2.2.1 x.2.2.2.2.2.2.2.2.2.2.2.2 = some true := by
  unfold bulk_Shell at hb
  rw [laws_eqShell_eq, eqStore_refl (x.1, x.2.1, x.2.2.1, x.2.2.2.1, x.2.2.2.2.1, x.2.2.2.2.2.1, x.2.2.2.2.2.2.1, x.2.2.2.2.2.2.2.1, x.2.2.2.2.2.2.2.2.1, x.2.2.2.2.2.2.2.2.2.1, x.2.2.2.2.2.2.2.2.2.2.1, x.2.2.2.2.2.2.2.2.2.2.2.1) (by omega), sbind_some, eqNamedNumbersS_refl x.2.2.2.2.2.2.2.2.2.2.2.2 (by omega), sbind_some]
  simp only [seq_self, bne_self_eq_false, beq_self_eq_true, Bool.not_true, Bool.not_false, sif_false, sif_true]
/-! sameL -/
theorem eq_loop_aux {α R : Type} [DecidableEq α] (no : R) : ∀ (a b : List α) (_ : a.length = b.length) (i : Nat) (F : Nat → Option R) (_ : ∀ j x y, a[j]? = some x → b[j]? = some y → j < a.length → F (i + j) = sif (decide (x = y)) (F (i + j + 1)) (some no)), F i = sif (decide (a = b)) (F (i + a.length)) (some no)
  | [], [], _, i, F, _ => by simp
  | x :: a, y :: b, hl, i, F, hs => by
    have h0 := hs 0 x y rfl rfl (by simp)
    rw [Nat.add_zero] at h0
    rw [h0, eq_loop_aux no a b (by simpa using hl) (i + 1) F (fun j x y hx hy hj => by
      have := hs (j + 1) x y (by simpa using hx) (by simpa using hy) (by simpa using hj)
      rw [show i + 1 + j = i + (j + 1) by omega]; exact this)]
    rw [show i + 1 + a.length = i + (x :: a).length by simp; omega]
    by_cases h1 : x = y
    · subst h1
      by_cases h2 : a = b
      · subst h2; simp
      · have : ¬ (x :: a = x :: b) := by simpa using h2
        rw [sif_t rfl, sif_f h2, sif_f this]
    · have : ¬ (x :: a = y :: b) := by simp [h1]
      rw [sif_f h1, sif_f this]
  | [], y :: b, hl, _, _, _ => by simp at hl
  | x :: a, [], hl, _, _, _ => by simp at hl
theorem eq_loop {α R : Type} [DecidableEq α] {a b : List α} (hl : a.length = b.length) (F : Nat → Option R) (no : R) (hs : ∀ i x y, a[i]? = some x → b[i]? = some y → i < a.length → F i = sif (decide (x = y)) (F (i + 1)) (some no)) : F 0 = sif (decide (a = b)) (F a.length) (some no) := by
  have := eq_loop_aux no a b hl 0 F (fun j x y hx hy hj => by rw [Nat.zero_add]; exact hs j x y hx hy hj)
  rwa [Nat.zero_add] at this
theorem len_ne {α R : Type} [DecidableEq α] {a b : List α} {x y : Option R} {no : R} (h : a.length = b.length → x = sif (decide (a = b)) y (some no)) : sif (((a.length : Int) != (b.length : Int))) (some no) x = sif (decide (a = b)) y (some no) := by
  by_cases hl : a.length = b.length
  · rw [sif_neg (by rw [hl]; simp)]; exact h hl
  · rw [sif_pos (by simp; omega), sif_f (fun h => hl (by rw [h]))]
theorem eq_slice {α : Type} [DecidableEq α] {a b : List α} {x : Option Bool} (h : a.length = b.length → x = sif (decide (a = b)) (some true) (some false)) : sif (((a.length : Int) != (b.length : Int))) (some false) x = some (decide (a = b)) := by
  rw [len_ne h, sif_bool, Bool.and_true]
theorem pair_eq (x y : Int × ByteArray) : ((x.1 == y.1) && seq x.2 y.2) = decide (x = y) := by
  obtain ⟨x1, x2⟩ := x; obtain ⟨y1, y2⟩ := y
  rw [seq_eq, Bool.eq_iff_iff]; simp
theorem ne_dec {α R : Type} [DecidableEq α] (x y : α) (u v : Option R) : sif (x != y) u v = sif (decide (x = y)) v u := by
  by_cases h : x = y
  · subst h; simp
  · rw [sif_pos (by simpa using h), sif_f h]
theorem not_seq {R : Type} (x y : ByteArray) (u v : Option R) : sif (!seq x y) u v = sif (decide (x = y)) v u := by rw [sif_not, seq_eq]
theorem not_pair {R : Type} (x y : Int × ByteArray) (u v : Option R) : sif (!((x.1 == y.1) && seq x.2 y.2)) u v = sif (decide (x = y)) v u := by rw [sif_not, pair_eq]
theorem slices_Equal_simpl_Page_impl_Page_some (a b : List (Int × ByteArray)) (ha : a.length ≤ 1048576) : slices_Equal_simpl_Page_impl_Page a b = some (decide (a = b)) := by
  rw [slices_Equal_simpl_Page_impl_Page_eq]
  refine eq_slice (fun hl => ?_)
  have := eq_loop hl (fun i => slices_Equal_simpl_Page_impl_Page_l4 a b (a.length : Int) (i : Int)) false (fun i x y hx hy hi => by
    rw [slices_Equal_simpl_Page_impl_Page_l4_eq, sif_t (by omega), idx_some hx, sbind_some, idx_some hy, sbind_some, not_pair, wi64_add1 (by omega)])
  exact this.trans (by rw [slices_Equal_simpl_Page_impl_Page_l4_eq, sif_f (Int.lt_irrefl _)])
theorem slices_Equal_simpl_Put_impl_Put_some (a b : List (Int × ByteArray)) (ha : a.length ≤ 1048576) : slices_Equal_simpl_Put_impl_Put a b = some (decide (a = b)) := by
  rw [slices_Equal_simpl_Put_impl_Put_eq]
  refine eq_slice (fun hl => ?_)
  have := eq_loop hl (fun i => slices_Equal_simpl_Put_impl_Put_l4 a b (a.length : Int) (i : Int)) false (fun i x y hx hy hi => by
    rw [slices_Equal_simpl_Put_impl_Put_l4_eq, sif_t (by omega), idx_some hx, sbind_some, idx_some hy, sbind_some, not_pair, wi64_add1 (by omega)])
  exact this.trans (by rw [slices_Equal_simpl_Put_impl_Put_l4_eq, sif_f (Int.lt_irrefl _)])
theorem slices_Equal_sstring_string_some (a b : List ByteArray) (ha : a.length ≤ 1048576) : slices_Equal_sstring_string a b = some (decide (a = b)) := by
  rw [slices_Equal_sstring_string_eq]
  refine eq_slice (fun hl => ?_)
  have := eq_loop hl (fun i => slices_Equal_sstring_string_l4 a b (a.length : Int) (i : Int)) false (fun i x y hx hy hi => by
    rw [slices_Equal_sstring_string_l4_eq, sif_t (by omega), idx_some hx, sbind_some, idx_some hy, sbind_some, not_seq, wi64_add1 (by omega)])
  exact this.trans (by rw [slices_Equal_sstring_string_l4_eq, sif_f (Int.lt_irrefl _)])
theorem slices_Equal_sint64_int64_some (a b : List Int) (ha : a.length ≤ 1048576) : slices_Equal_sint64_int64 a b = some (decide (a = b)) := by
  rw [slices_Equal_sint64_int64_eq]
  refine eq_slice (fun hl => ?_)
  have := eq_loop hl (fun i => slices_Equal_sint64_int64_l4 a b (a.length : Int) (i : Int)) false (fun i x y hx hy hi => by
    rw [slices_Equal_sint64_int64_l4_eq, sif_t (by omega), idx_some hx, sbind_some, idx_some hy, sbind_some, ne_dec, wi64_add1 (by omega)])
  exact this.trans (by rw [slices_Equal_sint64_int64_l4_eq, sif_f (Int.lt_irrefl _)])
theorem spec_l00Same_some (a b : List Int) (ha : a.length ≤ 1048576) : spec_l00Same a b = some (decide (a = b)) := by
  rw [spec_l00Same_eq]
  refine eq_slice (fun hl => ?_)
  have := eq_loop hl (fun i => spec_l00Same_l4 a b (i : Int)) false (fun i x y hx hy hi => by
    rw [spec_l00Same_l4_eq, sif_t (by omega), idx_some hx, sbind_some, idx_some hy, sbind_some, ne_dec, wi64_add1 (by omega)])
  exact this.trans (by rw [spec_l00Same_l4_eq, sif_f (Int.lt_irrefl _)])
theorem spec_l12SamePages_some (a b : List (Int × ByteArray)) (ha : a.length ≤ 1048576) : spec_l12SamePages a b = some (decide (a = b)) := by
  rw [spec_l12SamePages_eq]
  refine eq_slice (fun hl => ?_)
  have := eq_loop hl (fun i => spec_l12SamePages_l4 a b (i : Int)) false (fun i x y hx hy hi => by
    rw [spec_l12SamePages_l4_eq, sif_t (by omega), idx_some hx, sbind_some, idx_some hy, sbind_some, not_pair, wi64_add1 (by omega)])
  exact this.trans (by rw [spec_l12SamePages_l4_eq, sif_f (Int.lt_irrefl _)])
theorem sif_and {R : Type} (b c : Bool) (x y : Option R) : sif b (sif c x y) y = sif (b && c) x y := by cases b <;> rfl
def sameDisk (a b : List ByteArray) (p q : List (Int × ByteArray)) (f g : Int) (o r : Bool) : Bool := decide (a = b) && (decide (p = q) && (f == g && o == r))
theorem impl_SameDisk_some (a p f o b q g r) (ha : a.length ≤ 1048576) (hp : p.length ≤ 1048576) : impl_SameDisk a p f o b q g r = some (sameDisk a b p q f g o r) := by
  rw [impl_SameDisk_eq, slices_Equal_sstring_string_some a b ha, sbind_some, slices_Equal_simpl_Put_impl_Put_some p q hp, sbind_some, sif_bool, sif_bool, sif_bool]; rfl
theorem spec_SameDisk_some (a p f o b q g r) (ha : a.length ≤ 1048576) (hp : p.length ≤ 1048576) : spec_SameDisk a p f o b q g r = some (sameDisk a b p q f g o r) := by
  rw [spec_SameDisk_eq]
  unfold sameDisk
  by_cases hl : a.length = b.length
  · by_cases hq : p.length = q.length
    · rw [sif_neg (by rw [hl]; simp), sif_neg (by rw [hq]; simp)]
      have h4 := eq_loop hl (fun i => spec_SameDisk_l4 (i : Int) a p f o b q g r) false (fun i x y hx hy hi => by
        rw [spec_SameDisk_l4_eq, sif_t (by omega), idx_some hx, sbind_some, idx_some hy, sbind_some, not_seq, wi64_add1 (by omega)])
      have h9 := eq_loop hq (fun i => spec_SameDisk_l9 (i : Int) a p f o b q g r) false (fun i x y hx hy hi => by
        rw [spec_SameDisk_l9_eq, sif_t (by omega), idx_some hx, sbind_some, idx_some hy, sbind_some, not_pair, wi64_add1 (by omega)])
      rw [spec_SameDisk_l4_eq (a.length : Int), sif_f (Int.lt_irrefl _)] at h4
      rw [spec_SameDisk_l9_eq (p.length : Int), sif_f (Int.lt_irrefl _)] at h9
      rw [show spec_SameDisk_l4 0 a p f o b q g r = _ from h4, show spec_SameDisk_l9 0 a p f o b q g r = _ from h9]
      rw [sif_bool, sif_bool, sif_bool', sif_bool', Bool.and_true]
      congr 1
      rw [show (!(f != g)) = (f == g) by unfold bne; simp, Bool.not_not]
      cases (decide (a = b)) <;> cases (decide (p = q)) <;> cases (f == g) <;> cases (o == r) <;> rfl
    · have : ¬ p = q := fun h => hq (by rw [h])
      rw [sif_neg (by rw [hl]; simp), sif_pos (by simp; omega), decide_eq_false this]; simp
  · have : ¬ a = b := fun h => hl (by rw [h])
    rw [sif_pos (by simp; omega), decide_eq_false this]; simp
def samePager (A1 : List ByteArray) (P1 : List (Int × ByteArray)) (f1 : Int) (o1 : Bool) (s1 : Int) (s2 : Int) (s3 : Int) (s4 : Int) (q1 : Int) (t1 : Int) (L1 : List (Int × ByteArray)) (D1 : List (Int × ByteArray)) (A2 : List ByteArray) (P2 : List (Int × ByteArray)) (f2 : Int) (o2 : Bool) (u1 : Int) (u2 : Int) (u3 : Int) (u4 : Int) (q2 : Int) (t2 : Int) (L2 : List (Int × ByteArray)) (D2 : List (Int × ByteArray)) : Bool := sameDisk A1 A2 P1 P2 f1 f2 o1 o2 && (((s1 : Int) == u1 && ((s2 : Int) == u2 && ((s3 : Int) == u3 && (s4 : Int) == u4))) && ((q1 : Int) == q2 && ((t1 : Int) == t2 && (decide ((L1 : List (Int × ByteArray)) = L2) && decide ((D1 : List (Int × ByteArray)) = D2)))))
theorem impl_SamePager_some (A1 : List ByteArray) (P1 : List (Int × ByteArray)) (f1 : Int) (o1 : Bool) (s1 : Int) (s2 : Int) (s3 : Int) (s4 : Int) (q1 : Int) (t1 : Int) (L1 : List (Int × ByteArray)) (D1 : List (Int × ByteArray)) (A2 : List ByteArray) (P2 : List (Int × ByteArray)) (f2 : Int) (o2 : Bool) (u1 : Int) (u2 : Int) (u3 : Int) (u4 : Int) (q2 : Int) (t2 : Int) (L2 : List (Int × ByteArray)) (D2 : List (Int × ByteArray)) (ha : A1.length ≤ 1048576) (hp : P1.length ≤ 1048576) (hl : L1.length ≤ 1048576) (hd : D1.length ≤ 1048576) : impl_SamePager A1 P1 f1 o1 s1 s2 s3 s4 q1 t1 L1 D1 A2 P2 f2 o2 u1 u2 u3 u4 q2 t2 L2 D2 = some (samePager A1 P1 f1 o1 s1 s2 s3 s4 q1 t1 L1 D1 A2 P2 f2 o2 u1 u2 u3 u4 q2 t2 L2 D2) := by
  rw [impl_SamePager_eq, impl_SameDisk_some _ _ _ _ _ _ _ _ ha hp, sbind_some, slices_Equal_simpl_Page_impl_Page_some _ _ hl, sbind_some, slices_Equal_simpl_Page_impl_Page_some _ _ hd, sbind_some, sif_bool, sif_bool, sif_bool, sif_bool, sif_bool]; rfl
theorem spec_SamePager_some (A1 : List ByteArray) (P1 : List (Int × ByteArray)) (f1 : Int) (o1 : Bool) (s1 : Int) (s2 : Int) (s3 : Int) (s4 : Int) (q1 : Int) (t1 : Int) (L1 : List (Int × ByteArray)) (D1 : List (Int × ByteArray)) (A2 : List ByteArray) (P2 : List (Int × ByteArray)) (f2 : Int) (o2 : Bool) (u1 : Int) (u2 : Int) (u3 : Int) (u4 : Int) (q2 : Int) (t2 : Int) (L2 : List (Int × ByteArray)) (D2 : List (Int × ByteArray)) (ha : A1.length ≤ 1048576) (hp : P1.length ≤ 1048576) (hl : L1.length ≤ 1048576) (hd : D1.length ≤ 1048576) : spec_SamePager A1 P1 f1 o1 s1 s2 s3 s4 q1 t1 L1 D1 A2 P2 f2 o2 u1 u2 u3 u4 q2 t2 L2 D2 = some (samePager A1 P1 f1 o1 s1 s2 s3 s4 q1 t1 L1 D1 A2 P2 f2 o2 u1 u2 u3 u4 q2 t2 L2 D2) := by
  rw [spec_SamePager_eq, spec_SameDisk_some _ _ _ _ _ _ _ _ ha hp, sbind_some, spec_l12SamePages_some _ _ hl, sbind_some, spec_l12SamePages_some _ _ hd, sbind_some, sif_bool, sif_bool, sif_bool, sif_bool, sif_bool]; rfl
/-! FnExactSameShell -/
abbrev NN := ByteArray × List Int × List Int
def nnOk (x : NN) : Prop := x.2.1.length ≤ 1048576 ∧ x.2.2.length ≤ 1048576
theorem impl_SameNumbers_some (a b c d) (ha : a.length ≤ 1048576) (hb : b.length ≤ 1048576) : impl_SameNumbers a b c d = some (decide (a = c) && decide (b = d)) := by
  rw [impl_SameNumbers_eq, slices_Equal_sint64_int64_some _ _ ha, sbind_some, slices_Equal_sint64_int64_some _ _ hb, sbind_some, sif_bool]
theorem spec_SameNumbers_some (a b c d) (ha : a.length ≤ 1048576) (hb : b.length ≤ 1048576) : spec_SameNumbers a b c d = some (decide (a = c) && decide (b = d)) := by
  rw [spec_SameNumbers_eq, spec_l00Same_some _ _ ha, sbind_some, spec_l00Same_some _ _ hb, sbind_some, sif_bool]
theorem nn_eq (x y : NN) : (decide (x.1 = y.1) && (decide (x.2.1 = y.2.1) && decide (x.2.2 = y.2.2))) = decide (x = y) := by
  obtain ⟨a, b, c⟩ := x; obtain ⟨d, e, f⟩ := y
  rw [Bool.eq_iff_iff]; simp
theorem impl_sameNamed_some (x y : NN) (h : nnOk x) : impl_sameNamed x.1 x.2.1 x.2.2 y.1 y.2.1 y.2.2 = some (decide (x = y)) := by
  rw [impl_sameNamed_eq, impl_SameNumbers_some _ _ _ _ h.1 h.2, sbind_some, sif_bool, seq_eq, nn_eq]
theorem nn_equal (a b : List NN) (ha : a.length ≤ 1048576) (hn : ∀ x ∈ a, nnOk x) : slices_EqualFunc_simpl_NamedNumbers_simpl_NamedNumbers_impl_NamedNumbers_impl_NamedNumbers_dd_sameNamed a b = some (decide (a = b)) := by
  rw [slices_EqualFunc_simpl_NamedNumbers_simpl_NamedNumbers_impl_NamedNumbers_impl_NamedNumbers_dd_sameNamed_eq]
  refine eq_slice (fun hl => ?_)
  have := eq_loop hl (fun i => slices_EqualFunc_simpl_NamedNumbers_simpl_NamedNumbers_impl_NamedNumbers_impl_NamedNumbers_dd_sameNamed_l4 b a (a.length : Int) (i : Int)) false (fun i x y hx hy hi => by
    rw [slices_EqualFunc_simpl_NamedNumbers_simpl_NamedNumbers_impl_NamedNumbers_impl_NamedNumbers_dd_sameNamed_l4_eq, sif_t (by omega), idx_some hx, sbind_some, idx_some hy, sbind_some, impl_sameNamed_some x y (hn _ (mem_of_at hx)), sbind_some, sif_not, wi64_add1 (by omega)])
  exact this.trans (by rw [slices_EqualFunc_simpl_NamedNumbers_simpl_NamedNumbers_impl_NamedNumbers_impl_NamedNumbers_dd_sameNamed_l4_eq, sif_f (Int.lt_irrefl _)])
def sameShell (A1 : List ByteArray) (P1 : List (Int × ByteArray)) (f1 : Int) (o1 : Bool) (s1 : Int) (s2 : Int) (s3 : Int) (s4 : Int) (q1 : Int) (t1 : Int) (L1 : List (Int × ByteArray)) (D1 : List (Int × ByteArray)) (V1 : List NN) (A2 : List ByteArray) (P2 : List (Int × ByteArray)) (f2 : Int) (o2 : Bool) (u1 : Int) (u2 : Int) (u3 : Int) (u4 : Int) (q2 : Int) (t2 : Int) (L2 : List (Int × ByteArray)) (D2 : List (Int × ByteArray)) (V2 : List NN) : Bool := samePager A1 P1 f1 o1 s1 s2 s3 s4 q1 t1 L1 D1 A2 P2 f2 o2 u1 u2 u3 u4 q2 t2 L2 D2 && decide (V1 = V2)
theorem impl_SameShell_some (A1 : List ByteArray) (P1 : List (Int × ByteArray)) (f1 : Int) (o1 : Bool) (s1 : Int) (s2 : Int) (s3 : Int) (s4 : Int) (q1 : Int) (t1 : Int) (L1 : List (Int × ByteArray)) (D1 : List (Int × ByteArray)) (V1 : List NN) (A2 P2 f2 o2 u1 u2 u3 u4 q2 t2 L2 D2) (V2 : List NN) (ha : A1.length ≤ 1048576) (hp : P1.length ≤ 1048576) (hl : L1.length ≤ 1048576) (hd : D1.length ≤ 1048576) (hv : V1.length ≤ 1048576) (hn : ∀ x ∈ V1, nnOk x) : impl_SameShell A1 P1 f1 o1 s1 s2 s3 s4 q1 t1 L1 D1 V1 A2 P2 f2 o2 u1 u2 u3 u4 q2 t2 L2 D2 V2 = some (sameShell A1 P1 f1 o1 s1 s2 s3 s4 q1 t1 L1 D1 V1 A2 P2 f2 o2 u1 u2 u3 u4 q2 t2 L2 D2 V2) := by
  rw [impl_SameShell_eq, impl_SamePager_some _ _ _ _ _ _ _ _ _ _ _ _ _ _ _ _ _ _ _ _ _ _ _ _ ha hp hl hd, sbind_some, nn_equal _ _ hv hn, sbind_some, sif_bool]; rfl
theorem spec_SameShell_some (A1 : List ByteArray) (P1 : List (Int × ByteArray)) (f1 : Int) (o1 : Bool) (s1 : Int) (s2 : Int) (s3 : Int) (s4 : Int) (q1 : Int) (t1 : Int) (L1 : List (Int × ByteArray)) (D1 : List (Int × ByteArray)) (V1 : List NN) (A2 P2 f2 o2 u1 u2 u3 u4 q2 t2 L2 D2) (V2 : List NN) (ha : A1.length ≤ 1048576) (hp : P1.length ≤ 1048576) (hl : L1.length ≤ 1048576) (hd : D1.length ≤ 1048576) (hv : V1.length ≤ 1048576) (hn : ∀ x ∈ V1, nnOk x) : spec_SameShell A1 P1 f1 o1 s1 s2 s3 s4 q1 t1 L1 D1 V1 A2 P2 f2 o2 u1 u2 u3 u4 q2 t2 L2 D2 V2 = some (sameShell A1 P1 f1 o1 s1 s2 s3 s4 q1 t1 L1 D1 V1 A2 P2 f2 o2 u1 u2 u3 u4 q2 t2 L2 D2 V2) := by
  rw [spec_SameShell_eq, spec_SamePager_some _ _ _ _ _ _ _ _ _ _ _ _ _ _ _ _ _ _ _ _ _ _ _ _ ha hp hl hd, sbind_some, sif_not]
  have h4 : sif (((V1.length : Int) != (V2.length : Int))) (some false) (spec_SameShell_l4 0 A1 P1 f1 o1 s1 s2 s3 s4 q1 t1 L1 D1 V1 A2 P2 f2 o2 u1 u2 u3 u4 q2 t2 L2 D2 V2) = some (decide (V1 = V2)) := by
    refine eq_slice (fun he => ?_)
    have := eq_loop he (fun i => spec_SameShell_l4 (i : Int) A1 P1 f1 o1 s1 s2 s3 s4 q1 t1 L1 D1 V1 A2 P2 f2 o2 u1 u2 u3 u4 q2 t2 L2 D2 V2) false (fun i x y hx hy hi => by
      have hm := hn _ (mem_of_at hx)
      rw [spec_SameShell_l4_eq, sif_t (by omega), idx_some hx, sbind_some, idx_some hy, sbind_some, sbind_some, sbind_some, spec_SameNumbers_some _ _ _ _ hm.1 hm.2, sbind_some, not_seq, sif_not, sif_and, nn_eq, wi64_add1 (by omega)])
    exact this.trans (by rw [spec_SameShell_l4_eq, sif_f (Int.lt_irrefl _)])
  rw [h4, sif_bool]; rfl
theorem shell_sm {a p} {f : Int} {o : Bool} {s1 s2 s3 s4 q t : Int} {l d} {v : List NN}
    (O0 : (a.length ≤ maxLen ∧ a.length * 16 ≤ 140737488351232 ∧ ∀ e__ ∈ a, e__.size ≤ 140737488351232) ∧ (p.length ≤ maxLen ∧ p.length * 24 ≤ 140737488351232 ∧ ∀ e__ ∈ p, ((Lit.int .i64 e__.1).wf = true) ∧ (e__.2.size ≤ 140737488351232)) ∧ ((Lit.int .i64 f).wf = true) ∧ (True) ∧ ((Lit.int .i64 s1).wf = true) ∧ ((Lit.int .i64 s2).wf = true) ∧ ((Lit.int .i64 s3).wf = true) ∧ ((Lit.int .i64 s4).wf = true) ∧ ((Lit.int .i64 q).wf = true) ∧ ((Lit.int .i64 t).wf = true) ∧ (l.length ≤ maxLen ∧ l.length * 24 ≤ 140737488351232 ∧ ∀ e__ ∈ l, ((Lit.int .i64 e__.1).wf = true) ∧ (e__.2.size ≤ 140737488351232)) ∧ (d.length ≤ maxLen ∧ d.length * 24 ≤ 140737488351232 ∧ ∀ e__ ∈ d, ((Lit.int .i64 e__.1).wf = true) ∧ (e__.2.size ≤ 140737488351232)) ∧ (v.length ≤ maxLen ∧ v.length * 64 ≤ 140737488351232 ∧ ∀ e_ ∈ v, (e_.1.size ≤ 140737488351232) ∧ (e_.2.1.length ≤ maxLen ∧ e_.2.1.length * 8 ≤ 140737488351232 ∧ ∀ e__ ∈ e_.2.1, (Lit.int .i64 e__).wf = true) ∧ (e_.2.2.length ≤ maxLen ∧ e_.2.2.length * 8 ≤ 140737488351232 ∧ ∀ e__ ∈ e_.2.2, (Lit.int .i64 e__).wf = true))) : sm_Shell (a, p, f, o, s1, s2, s3, s4, q, t, l, d, v) := by
  obtain ⟨⟨_, a1, a2⟩, ⟨_, b1, b2⟩, _, _, _, _, _, _, _, _, ⟨_, c1, c2⟩, ⟨_, d1, d2⟩, ⟨_, v1, v2⟩⟩ := O0
  refine ⟨⟨⟨⟨by dsimp only; omega, fun x hx => Nat.le_trans (a2 x hx) (by omega)⟩, by dsimp only; omega, fun x hx => Nat.le_trans (b2 x hx).2 (by omega)⟩, ⟨by dsimp only; omega, fun x hx => Nat.le_trans (c2 x hx).2 (by omega)⟩, by dsimp only; omega, fun x hx => Nat.le_trans (d2 x hx).2 (by omega)⟩, by dsimp only; omega, fun x hx => ?_⟩
  obtain ⟨e1, ⟨_, e2, _⟩, _, e3, _⟩ := v2 x hx
  exact ⟨Nat.le_trans e1 (by omega), by dsimp only; omega, by dsimp only; omega⟩
theorem shell_len {a p} {f : Int} {o : Bool} {s1 s2 s3 s4 q t : Int} {l d} {v : List NN} (h : bulk_Shell (a, p, f, o, s1, s2, s3, s4, q, t, l, d, v) ≤ 1048576) : a.length ≤ 1048576 ∧ p.length ≤ 1048576 ∧ l.length ≤ 1048576 ∧ d.length ≤ 1048576 ∧ v.length ≤ 1048576 ∧ ∀ x ∈ v, nnOk x := by
  simp only [bulk_Shell, bulk_Store, bulk_Pager, bulk_Disk] at h
  have h1 := bulk_len ByteArray.size a; have h2 := bulk_len bulk_Put p; have h3 := bulk_len bulk_Page l; have h4 := bulk_len bulk_Page d; have h5 := bulk_len bulk_NamedNumbers v
  refine ⟨by omega, by omega, by omega, by omega, by omega, fun x hx => ?_⟩
  have := bulk_mem (b := bulk_NamedNumbers) hx
  simp only [bulk_NamedNumbers, bulk_Numbers] at this
  exact ⟨by omega, by omega⟩
theorem pure_FnExactSameShell (aA_Store_Pager_Disk_Blocks : List ByteArray) (aA_Store_Pager_Disk_Pending : List (Int × ByteArray)) (aA_Store_Pager_Disk_Fuse : Int) (aA_Store_Pager_Disk_Off : Bool) (aA_Store_Pager_Super_Blocks : Int) (aA_Store_Pager_Super_Log : Int) (aA_Store_Pager_Super_Seq : Int) (aA_Store_Pager_Super_Turn : Int) (aA_Store_Pager_Seq : Int) (aA_Store_Pager_At : Int) (aA_Store_Pager_Logged : List (Int × ByteArray)) (aA_Store_Pager_Dirty : List (Int × ByteArray)) (aA_Vars : List (ByteArray × List Int × List Int)) (aB_Store_Pager_Disk_Blocks : List ByteArray) (aB_Store_Pager_Disk_Pending : List (Int × ByteArray)) (aB_Store_Pager_Disk_Fuse : Int) (aB_Store_Pager_Disk_Off : Bool) (aB_Store_Pager_Super_Blocks : Int) (aB_Store_Pager_Super_Log : Int) (aB_Store_Pager_Super_Seq : Int) (aB_Store_Pager_Super_Turn : Int) (aB_Store_Pager_Seq : Int) (aB_Store_Pager_At : Int) (aB_Store_Pager_Logged : List (Int × ByteArray)) (aB_Store_Pager_Dirty : List (Int × ByteArray)) (aB_Vars : List (ByteArray × List Int × List Int)) (O0 : (aA_Store_Pager_Disk_Blocks.length ≤ maxLen ∧ aA_Store_Pager_Disk_Blocks.length * 16 ≤ 140737488351232 ∧ ∀ e__ ∈ aA_Store_Pager_Disk_Blocks, e__.size ≤ 140737488351232) ∧ (aA_Store_Pager_Disk_Pending.length ≤ maxLen ∧ aA_Store_Pager_Disk_Pending.length * 24 ≤ 140737488351232 ∧ ∀ e__ ∈ aA_Store_Pager_Disk_Pending, ((Lit.int .i64 e__.1).wf = true) ∧ (e__.2.size ≤ 140737488351232)) ∧ ((Lit.int .i64 aA_Store_Pager_Disk_Fuse).wf = true) ∧ (True) ∧ ((Lit.int .i64 aA_Store_Pager_Super_Blocks).wf = true) ∧ ((Lit.int .i64 aA_Store_Pager_Super_Log).wf = true) ∧ ((Lit.int .i64 aA_Store_Pager_Super_Seq).wf = true) ∧ ((Lit.int .i64 aA_Store_Pager_Super_Turn).wf = true) ∧ ((Lit.int .i64 aA_Store_Pager_Seq).wf = true) ∧ ((Lit.int .i64 aA_Store_Pager_At).wf = true) ∧ (aA_Store_Pager_Logged.length ≤ maxLen ∧ aA_Store_Pager_Logged.length * 24 ≤ 140737488351232 ∧ ∀ e__ ∈ aA_Store_Pager_Logged, ((Lit.int .i64 e__.1).wf = true) ∧ (e__.2.size ≤ 140737488351232)) ∧ (aA_Store_Pager_Dirty.length ≤ maxLen ∧ aA_Store_Pager_Dirty.length * 24 ≤ 140737488351232 ∧ ∀ e__ ∈ aA_Store_Pager_Dirty, ((Lit.int .i64 e__.1).wf = true) ∧ (e__.2.size ≤ 140737488351232)) ∧ (aA_Vars.length ≤ maxLen ∧ aA_Vars.length * 64 ≤ 140737488351232 ∧ ∀ e_ ∈ aA_Vars, (e_.1.size ≤ 140737488351232) ∧ (e_.2.1.length ≤ maxLen ∧ e_.2.1.length * 8 ≤ 140737488351232 ∧ ∀ e__ ∈ e_.2.1, (Lit.int .i64 e__).wf = true) ∧ (e_.2.2.length ≤ maxLen ∧ e_.2.2.length * 8 ≤ 140737488351232 ∧ ∀ e__ ∈ e_.2.2, (Lit.int .i64 e__).wf = true))) (O1 : (aB_Store_Pager_Disk_Blocks.length ≤ maxLen ∧ aB_Store_Pager_Disk_Blocks.length * 16 ≤ 140737488351232 ∧ ∀ e__ ∈ aB_Store_Pager_Disk_Blocks, e__.size ≤ 140737488351232) ∧ (aB_Store_Pager_Disk_Pending.length ≤ maxLen ∧ aB_Store_Pager_Disk_Pending.length * 24 ≤ 140737488351232 ∧ ∀ e__ ∈ aB_Store_Pager_Disk_Pending, ((Lit.int .i64 e__.1).wf = true) ∧ (e__.2.size ≤ 140737488351232)) ∧ ((Lit.int .i64 aB_Store_Pager_Disk_Fuse).wf = true) ∧ (True) ∧ ((Lit.int .i64 aB_Store_Pager_Super_Blocks).wf = true) ∧ ((Lit.int .i64 aB_Store_Pager_Super_Log).wf = true) ∧ ((Lit.int .i64 aB_Store_Pager_Super_Seq).wf = true) ∧ ((Lit.int .i64 aB_Store_Pager_Super_Turn).wf = true) ∧ ((Lit.int .i64 aB_Store_Pager_Seq).wf = true) ∧ ((Lit.int .i64 aB_Store_Pager_At).wf = true) ∧ (aB_Store_Pager_Logged.length ≤ maxLen ∧ aB_Store_Pager_Logged.length * 24 ≤ 140737488351232 ∧ ∀ e__ ∈ aB_Store_Pager_Logged, ((Lit.int .i64 e__.1).wf = true) ∧ (e__.2.size ≤ 140737488351232)) ∧ (aB_Store_Pager_Dirty.length ≤ maxLen ∧ aB_Store_Pager_Dirty.length * 24 ≤ 140737488351232 ∧ ∀ e__ ∈ aB_Store_Pager_Dirty, ((Lit.int .i64 e__.1).wf = true) ∧ (e__.2.size ≤ 140737488351232)) ∧ (aB_Vars.length ≤ maxLen ∧ aB_Vars.length * 64 ≤ 140737488351232 ∧ ∀ e_ ∈ aB_Vars, (e_.1.size ≤ 140737488351232) ∧ (e_.2.1.length ≤ maxLen ∧ e_.2.1.length * 8 ≤ 140737488351232 ∧ ∀ e__ ∈ e_.2.1, (Lit.int .i64 e__).wf = true) ∧ (e_.2.2.length ≤ maxLen ∧ e_.2.2.length * 8 ≤ 140737488351232 ∧ ∀ e__ ∈ e_.2.2, (Lit.int .i64 e__).wf = true))) : laws_FnExactSameShell aA_Store_Pager_Disk_Blocks aA_Store_Pager_Disk_Pending aA_Store_Pager_Disk_Fuse aA_Store_Pager_Disk_Off aA_Store_Pager_Super_Blocks aA_Store_Pager_Super_Log aA_Store_Pager_Super_Seq aA_Store_Pager_Super_Turn aA_Store_Pager_Seq aA_Store_Pager_At aA_Store_Pager_Logged aA_Store_Pager_Dirty aA_Vars aB_Store_Pager_Disk_Blocks aB_Store_Pager_Disk_Pending aB_Store_Pager_Disk_Fuse aB_Store_Pager_Disk_Off aB_Store_Pager_Super_Blocks aB_Store_Pager_Super_Log aB_Store_Pager_Super_Seq aB_Store_Pager_Super_Turn aB_Store_Pager_Seq aB_Store_Pager_At aB_Store_Pager_Logged aB_Store_Pager_Dirty aB_Vars = some true := by
  have e0 : laws_szShell aA_Store_Pager_Disk_Blocks aA_Store_Pager_Disk_Pending aA_Store_Pager_Disk_Fuse aA_Store_Pager_Disk_Off aA_Store_Pager_Super_Blocks aA_Store_Pager_Super_Log aA_Store_Pager_Super_Seq aA_Store_Pager_Super_Turn aA_Store_Pager_Seq aA_Store_Pager_At aA_Store_Pager_Logged aA_Store_Pager_Dirty aA_Vars 1048576 = _ := szShell_some (aA_Store_Pager_Disk_Blocks, aA_Store_Pager_Disk_Pending, aA_Store_Pager_Disk_Fuse, aA_Store_Pager_Disk_Off, aA_Store_Pager_Super_Blocks, aA_Store_Pager_Super_Log, aA_Store_Pager_Super_Seq, aA_Store_Pager_Super_Turn, aA_Store_Pager_Seq, aA_Store_Pager_At, aA_Store_Pager_Logged, aA_Store_Pager_Dirty, aA_Vars) 1048576 (shell_sm O0) (by omega) (by omega)
  rw [laws_FnExactSameShell_eq, e0, sbind_some]
  by_cases c : ((bulk_Shell (aA_Store_Pager_Disk_Blocks, aA_Store_Pager_Disk_Pending, aA_Store_Pager_Disk_Fuse, aA_Store_Pager_Disk_Off, aA_Store_Pager_Super_Blocks, aA_Store_Pager_Super_Log, aA_Store_Pager_Super_Seq, aA_Store_Pager_Super_Turn, aA_Store_Pager_Seq, aA_Store_Pager_At, aA_Store_Pager_Logged, aA_Store_Pager_Dirty, aA_Vars) : Nat) : Int) ≤ 1048576
  · rw [if_pos c, sif_f (by omega)]
    have hb : bulk_Shell (aA_Store_Pager_Disk_Blocks, aA_Store_Pager_Disk_Pending, aA_Store_Pager_Disk_Fuse, aA_Store_Pager_Disk_Off, aA_Store_Pager_Super_Blocks, aA_Store_Pager_Super_Log, aA_Store_Pager_Super_Seq, aA_Store_Pager_Super_Turn, aA_Store_Pager_Seq, aA_Store_Pager_At, aA_Store_Pager_Logged, aA_Store_Pager_Dirty, aA_Vars) ≤ 1048576 := by omega
    have e1 : laws_szShell aB_Store_Pager_Disk_Blocks aB_Store_Pager_Disk_Pending aB_Store_Pager_Disk_Fuse aB_Store_Pager_Disk_Off aB_Store_Pager_Super_Blocks aB_Store_Pager_Super_Log aB_Store_Pager_Super_Seq aB_Store_Pager_Super_Turn aB_Store_Pager_Seq aB_Store_Pager_At aB_Store_Pager_Logged aB_Store_Pager_Dirty aB_Vars (1048576 - ((bulk_Shell (aA_Store_Pager_Disk_Blocks, aA_Store_Pager_Disk_Pending, aA_Store_Pager_Disk_Fuse, aA_Store_Pager_Disk_Off, aA_Store_Pager_Super_Blocks, aA_Store_Pager_Super_Log, aA_Store_Pager_Super_Seq, aA_Store_Pager_Super_Turn, aA_Store_Pager_Seq, aA_Store_Pager_At, aA_Store_Pager_Logged, aA_Store_Pager_Dirty, aA_Vars) : Nat) : Int)) = _ := szShell_some (aB_Store_Pager_Disk_Blocks, aB_Store_Pager_Disk_Pending, aB_Store_Pager_Disk_Fuse, aB_Store_Pager_Disk_Off, aB_Store_Pager_Super_Blocks, aB_Store_Pager_Super_Log, aB_Store_Pager_Super_Seq, aB_Store_Pager_Super_Turn, aB_Store_Pager_Seq, aB_Store_Pager_At, aB_Store_Pager_Logged, aB_Store_Pager_Dirty, aB_Vars) (1048576 - ((bulk_Shell (aA_Store_Pager_Disk_Blocks, aA_Store_Pager_Disk_Pending, aA_Store_Pager_Disk_Fuse, aA_Store_Pager_Disk_Off, aA_Store_Pager_Super_Blocks, aA_Store_Pager_Super_Log, aA_Store_Pager_Super_Seq, aA_Store_Pager_Super_Turn, aA_Store_Pager_Seq, aA_Store_Pager_At, aA_Store_Pager_Logged, aA_Store_Pager_Dirty, aA_Vars) : Nat) : Int)) (shell_sm O1) (by omega) (by omega)
    rw [e1, sbind_some]
    by_cases c1 : ((bulk_Shell (aB_Store_Pager_Disk_Blocks, aB_Store_Pager_Disk_Pending, aB_Store_Pager_Disk_Fuse, aB_Store_Pager_Disk_Off, aB_Store_Pager_Super_Blocks, aB_Store_Pager_Super_Log, aB_Store_Pager_Super_Seq, aB_Store_Pager_Super_Turn, aB_Store_Pager_Seq, aB_Store_Pager_At, aB_Store_Pager_Logged, aB_Store_Pager_Dirty, aB_Vars) : Nat) : Int) ≤ 1048576 - ((bulk_Shell (aA_Store_Pager_Disk_Blocks, aA_Store_Pager_Disk_Pending, aA_Store_Pager_Disk_Fuse, aA_Store_Pager_Disk_Off, aA_Store_Pager_Super_Blocks, aA_Store_Pager_Super_Log, aA_Store_Pager_Super_Seq, aA_Store_Pager_Super_Turn, aA_Store_Pager_Seq, aA_Store_Pager_At, aA_Store_Pager_Logged, aA_Store_Pager_Dirty, aA_Vars) : Nat) : Int)
    · rw [if_pos c1, sif_f (by omega)]
      have hb1 : bulk_Shell (aB_Store_Pager_Disk_Blocks, aB_Store_Pager_Disk_Pending, aB_Store_Pager_Disk_Fuse, aB_Store_Pager_Disk_Off, aB_Store_Pager_Super_Blocks, aB_Store_Pager_Super_Log, aB_Store_Pager_Super_Seq, aB_Store_Pager_Super_Turn, aB_Store_Pager_Seq, aB_Store_Pager_At, aB_Store_Pager_Logged, aB_Store_Pager_Dirty, aB_Vars) ≤ 1048576 := by omega
      obtain ⟨l1, l2, l3, l4, l5, l6⟩ := shell_len hb
      have t0 : laws_toShell aA_Store_Pager_Disk_Blocks aA_Store_Pager_Disk_Pending aA_Store_Pager_Disk_Fuse aA_Store_Pager_Disk_Off aA_Store_Pager_Super_Blocks aA_Store_Pager_Super_Log aA_Store_Pager_Super_Seq aA_Store_Pager_Super_Turn aA_Store_Pager_Seq aA_Store_Pager_At aA_Store_Pager_Logged aA_Store_Pager_Dirty aA_Vars = _ := toShell_some (aA_Store_Pager_Disk_Blocks, aA_Store_Pager_Disk_Pending, aA_Store_Pager_Disk_Fuse, aA_Store_Pager_Disk_Off, aA_Store_Pager_Super_Blocks, aA_Store_Pager_Super_Log, aA_Store_Pager_Super_Seq, aA_Store_Pager_Super_Turn, aA_Store_Pager_Seq, aA_Store_Pager_At, aA_Store_Pager_Logged, aA_Store_Pager_Dirty, aA_Vars) hb
      have t1 : laws_toShell aB_Store_Pager_Disk_Blocks aB_Store_Pager_Disk_Pending aB_Store_Pager_Disk_Fuse aB_Store_Pager_Disk_Off aB_Store_Pager_Super_Blocks aB_Store_Pager_Super_Log aB_Store_Pager_Super_Seq aB_Store_Pager_Super_Turn aB_Store_Pager_Seq aB_Store_Pager_At aB_Store_Pager_Logged aB_Store_Pager_Dirty aB_Vars = _ := toShell_some (aB_Store_Pager_Disk_Blocks, aB_Store_Pager_Disk_Pending, aB_Store_Pager_Disk_Fuse, aB_Store_Pager_Disk_Off, aB_Store_Pager_Super_Blocks, aB_Store_Pager_Super_Log, aB_Store_Pager_Super_Seq, aB_Store_Pager_Super_Turn, aB_Store_Pager_Seq, aB_Store_Pager_At, aB_Store_Pager_Logged, aB_Store_Pager_Dirty, aB_Vars) hb1
      dsimp only at t0 t1
      have w0 := spec_SameShell_some aA_Store_Pager_Disk_Blocks aA_Store_Pager_Disk_Pending aA_Store_Pager_Disk_Fuse aA_Store_Pager_Disk_Off aA_Store_Pager_Super_Blocks aA_Store_Pager_Super_Log aA_Store_Pager_Super_Seq aA_Store_Pager_Super_Turn aA_Store_Pager_Seq aA_Store_Pager_At aA_Store_Pager_Logged aA_Store_Pager_Dirty aA_Vars aB_Store_Pager_Disk_Blocks aB_Store_Pager_Disk_Pending aB_Store_Pager_Disk_Fuse aB_Store_Pager_Disk_Off aB_Store_Pager_Super_Blocks aB_Store_Pager_Super_Log aB_Store_Pager_Super_Seq aB_Store_Pager_Super_Turn aB_Store_Pager_Seq aB_Store_Pager_At aB_Store_Pager_Logged aB_Store_Pager_Dirty aB_Vars l1 l2 l3 l4 l5 l6
      have g0 := impl_SameShell_some aA_Store_Pager_Disk_Blocks aA_Store_Pager_Disk_Pending aA_Store_Pager_Disk_Fuse aA_Store_Pager_Disk_Off aA_Store_Pager_Super_Blocks aA_Store_Pager_Super_Log aA_Store_Pager_Super_Seq aA_Store_Pager_Super_Turn aA_Store_Pager_Seq aA_Store_Pager_At aA_Store_Pager_Logged aA_Store_Pager_Dirty aA_Vars aB_Store_Pager_Disk_Blocks aB_Store_Pager_Disk_Pending aB_Store_Pager_Disk_Fuse aB_Store_Pager_Disk_Off aB_Store_Pager_Super_Blocks aB_Store_Pager_Super_Log aB_Store_Pager_Super_Seq aB_Store_Pager_Super_Turn aB_Store_Pager_Seq aB_Store_Pager_At aB_Store_Pager_Logged aB_Store_Pager_Dirty aB_Vars l1 l2 l3 l4 l5 l6
      have q0 : laws_eqShell aA_Store_Pager_Disk_Blocks aA_Store_Pager_Disk_Pending aA_Store_Pager_Disk_Fuse aA_Store_Pager_Disk_Off aA_Store_Pager_Super_Blocks aA_Store_Pager_Super_Log aA_Store_Pager_Super_Seq aA_Store_Pager_Super_Turn aA_Store_Pager_Seq aA_Store_Pager_At aA_Store_Pager_Logged aA_Store_Pager_Dirty aA_Vars aA_Store_Pager_Disk_Blocks aA_Store_Pager_Disk_Pending aA_Store_Pager_Disk_Fuse aA_Store_Pager_Disk_Off aA_Store_Pager_Super_Blocks aA_Store_Pager_Super_Log aA_Store_Pager_Super_Seq aA_Store_Pager_Super_Turn aA_Store_Pager_Seq aA_Store_Pager_At aA_Store_Pager_Logged aA_Store_Pager_Dirty aA_Vars = some true := eqShell_refl (aA_Store_Pager_Disk_Blocks, aA_Store_Pager_Disk_Pending, aA_Store_Pager_Disk_Fuse, aA_Store_Pager_Disk_Off, aA_Store_Pager_Super_Blocks, aA_Store_Pager_Super_Log, aA_Store_Pager_Super_Seq, aA_Store_Pager_Super_Turn, aA_Store_Pager_Seq, aA_Store_Pager_At, aA_Store_Pager_Logged, aA_Store_Pager_Dirty, aA_Vars) hb
      have q1 : laws_eqShell aB_Store_Pager_Disk_Blocks aB_Store_Pager_Disk_Pending aB_Store_Pager_Disk_Fuse aB_Store_Pager_Disk_Off aB_Store_Pager_Super_Blocks aB_Store_Pager_Super_Log aB_Store_Pager_Super_Seq aB_Store_Pager_Super_Turn aB_Store_Pager_Seq aB_Store_Pager_At aB_Store_Pager_Logged aB_Store_Pager_Dirty aB_Vars aB_Store_Pager_Disk_Blocks aB_Store_Pager_Disk_Pending aB_Store_Pager_Disk_Fuse aB_Store_Pager_Disk_Off aB_Store_Pager_Super_Blocks aB_Store_Pager_Super_Log aB_Store_Pager_Super_Seq aB_Store_Pager_Super_Turn aB_Store_Pager_Seq aB_Store_Pager_At aB_Store_Pager_Logged aB_Store_Pager_Dirty aB_Vars = some true := eqShell_refl (aB_Store_Pager_Disk_Blocks, aB_Store_Pager_Disk_Pending, aB_Store_Pager_Disk_Fuse, aB_Store_Pager_Disk_Off, aB_Store_Pager_Super_Blocks, aB_Store_Pager_Super_Log, aB_Store_Pager_Super_Seq, aB_Store_Pager_Super_Turn, aB_Store_Pager_Seq, aB_Store_Pager_At, aB_Store_Pager_Logged, aB_Store_Pager_Dirty, aB_Vars) hb1
      simp only [t0, t1, sbind_some, w0, g0, q0, q1, beq_self_eq_true, Bool.not_true, sif_false]
    · rw [if_neg c1, sif_t (by omega)]
  · rw [if_neg c, sif_t (by omega)]
end Go.Ve.X
