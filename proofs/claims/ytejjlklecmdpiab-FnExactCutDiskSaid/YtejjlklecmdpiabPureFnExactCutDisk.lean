/- What 'FnExactCutDisk' comes to, in plain words over numbers, texts and lists: each function that it reaches answers what is told; put together, the law answers true. No condition but the sizes that come in. -/
import Derived.Test.YtejjlklecmdpiabEqFnExactCutDisk
namespace Go.Ve.X
open Go.Ve
set_option linter.all false
set_option maxRecDepth 100000
def bulk_Put (x : Int × ByteArray) : Nat := x.2.size
theorem szStringS_some (a : List ByteArray) (left : Int) (hs : smL (fun x => x.size ≤ 140737488355328) a) (h0 : 0 ≤ left) (h1 : left ≤ 1048576) : laws_szStringS a left = some (if ((bulkL ByteArray.size a : Nat) : Int) ≤ left then left - ((bulkL ByteArray.size a : Nat) : Int) else -1) := by
  have hl := hs.1
  have key := fun (h0 : 0 ≤ left - (a.length : Int)) => sz_loop a ByteArray.size (fun left i => laws_szStringS_l5 a left i) (fun left => by rw [laws_szStringS_l5_eq, sif_f (by omega)]) (fun i x left hx hi h0 h1 => by
    have hx' : x.size ≤ 140737488355328 := hs.2 x (mem_of_at hx)
    rw [laws_szStringS_l5_eq, sif_t (by omega), idx_some hx, sbind_some, wi64_id (by omega) (by omega), wi64_add1 (by omega)]
    by_cases c : (x.size : Int) ≤ left
    · rw [if_pos c, sif_f (by omega)]
    · rw [if_neg c, sif_t (by omega)]) (left - (a.length : Int)) h0 (by omega)
  rw [laws_szStringS_eq, wi64_id (by omega) (by omega)]
  by_cases c : (a.length : Int) ≤ left
  · rw [sif_f (by omega), key (by omega)]
    unfold bulkL
    by_cases c2 : (((a.map ByteArray.size).sum : Nat) : Int) ≤ left - a.length
    · rw [if_pos c2, if_pos (by omega)]; congr 1; omega
    · rw [if_neg c2, if_neg (by omega)]
  · rw [sif_t (by omega), if_neg (by have := bulk_len ByteArray.size a; omega)]
def sm_Put (x : Int × ByteArray) : Prop := x.2.size ≤ 140737488355328
theorem szPut_some (x : Int × ByteArray) (left : Int) (hs : sm_Put x) (h0 : 0 ≤ left) (h1 : left ≤ 1048576) : laws_szPut x.1 x.2 left = some (if ((bulk_Put x : Nat) : Int) ≤ left then left - ((bulk_Put x : Nat) : Int) else -1) := by
  have hb : ((bulk_Put x : Nat) : Int) = ((x.2.size : Nat) : Int) := by unfold bulk_Put; omega
  unfold sm_Put at hs
  obtain s0 := hs
  rw [laws_szPut_eq]
  rw [wi64_id (by omega) (by omega)]
  by_cases c0 : ((x.2.size : Nat) : Int) ≤ left
  · rw [sif_f (by omega)]
    rw [if_pos (by omega)]; exact congrArg some (by omega)
  · rw [sif_t (by omega), if_neg (by omega)]
theorem szPutS_some (a : List (Int × ByteArray)) (left : Int) (hs : smL sm_Put a) (h0 : 0 ≤ left) (h1 : left ≤ 1048576) : laws_szPutS a left = some (if ((bulkL bulk_Put a : Nat) : Int) ≤ left then left - ((bulkL bulk_Put a : Nat) : Int) else -1) := by
  have hl := hs.1
  have key := fun (h0 : 0 ≤ left - (a.length : Int)) => sz_loop a bulk_Put (fun left i => laws_szPutS_l5 a left i) (fun left => by rw [laws_szPutS_l5_eq, sif_f (by omega)]) (fun i x left hx hi h0 h1 => by
    have hb : laws_szPutS_l5 a left (i : Int) = sbind (laws_szPut x.1 x.2 left) (fun r => sif (decide (r < 0)) (some (-1)) (laws_szPutS_l5 a r (wi64 ((i : Int) + 1)))) := by rw [laws_szPutS_l5_eq, sif_t (by omega), idx_some hx, sbind_some]
    rw [hb, szPut_some x left (hs.2 x (mem_of_at hx)) h0 h1, sbind_some, wi64_add1 (by omega)]
    by_cases c : ((bulk_Put x : Nat) : Int) ≤ left
    · rw [if_pos c, if_pos c, sif_f (by omega)]
    · rw [if_neg c, if_neg c, sif_t (by omega)]) (left - (a.length : Int)) h0 (by omega)
  rw [laws_szPutS_eq, wi64_id (by omega) (by omega)]
  by_cases c : (a.length : Int) ≤ left
  · rw [sif_f (by omega), key (by omega)]
    unfold bulkL
    by_cases c2 : (((a.map bulk_Put).sum : Nat) : Int) ≤ left - a.length
    · rw [if_pos c2, if_pos (by omega)]; congr 1; omega
    · rw [if_neg c2, if_neg (by omega)]
  · rw [sif_t (by omega), if_neg (by have := bulk_len bulk_Put a; omega)]
def bulk_Disk (x : List ByteArray × List (Int × ByteArray) × Int × Bool) : Nat := (bulkL ByteArray.size x.1) + (bulkL bulk_Put x.2.1)
def sm_Disk (x : List ByteArray × List (Int × ByteArray) × Int × Bool) : Prop := (smL (fun x => x.size ≤ 140737488355328) x.1) ∧ (smL sm_Put x.2.1)
theorem szDisk_some (x : List ByteArray × List (Int × ByteArray) × Int × Bool) (left : Int) (hs : sm_Disk x) (h0 : 0 ≤ left) (h1 : left ≤ 1048576) : laws_szDisk x.1 x.2.1 x.2.2.1 x.2.2.2 left = some (if ((bulk_Disk x : Nat) : Int) ≤ left then left - ((bulk_Disk x : Nat) : Int) else -1) := by
  have hb : ((bulk_Disk x : Nat) : Int) = ((bulkL ByteArray.size x.1 : Nat) : Int) + ((bulkL bulk_Put x.2.1 : Nat) : Int) := by unfold bulk_Disk; omega
  unfold sm_Disk at hs
  obtain ⟨s0, s1⟩ := hs
  rw [laws_szDisk_eq]
  rw [szStringS_some x.1 (left) s0 (by omega) (by omega), sbind_some]
  by_cases c0 : ((bulkL ByteArray.size x.1 : Nat) : Int) ≤ left
  · rw [if_pos c0, sif_f (by omega)]
    rw [szPutS_some x.2.1 (left - ((bulkL ByteArray.size x.1 : Nat) : Int)) s1 (by omega) (by omega), sbind_some]
    by_cases c1 : ((bulkL bulk_Put x.2.1 : Nat) : Int) ≤ left - ((bulkL ByteArray.size x.1 : Nat) : Int)
    · rw [if_pos c1, sif_f (by omega)]
      rw [if_pos (by omega)]; exact congrArg some (by omega)
    · rw [if_neg c1, sif_t (by omega), if_neg (by omega)]
  · rw [if_neg c0, sif_t (by omega), if_neg (by omega)]
theorem toStringS_some (a : List ByteArray) (hb : bulkL ByteArray.size a ≤ 1048576) : laws_toStringS a = some a := by
  have hl : a.length ≤ 1048576 := Nat.le_trans (bulk_len ByteArray.size a) hb
  have key := loop_fill a id (fun i out => laws_toStringS_l3 a i out) id (fun out ho => by rw [laws_toStringS_l3_eq, sif_f (by omega)]; rfl) (fun i x out hx hi ho => by
    rw [laws_toStringS_l3_eq, sif_t (by omega), idx_some hx, sbind_some, sif_pos (lt3_ok (by omega) (by omega)), wi64_add1 (by omega)]
    rfl) (List.replicate a.length (bs [])) (by simp)
  rw [laws_toStringS_eq, sif_pos (by rw [le3_ok (by omega) (by omega), room_ok (by omega)]; rfl)]
  simpa using key
theorem toPut_some (x : Int × ByteArray) (hb : bulk_Put x ≤ 1048576) : laws_toPut x.1 x.2 = some (x.1, x.2) := by
  unfold bulk_Put at hb
  rw [laws_toPut_eq]
theorem toPutS_some (a : List (Int × ByteArray)) (hb : bulkL bulk_Put a ≤ 1048576) : laws_toPutS a = some a := by
  have hl : a.length ≤ 1048576 := Nat.le_trans (bulk_len bulk_Put a) hb
  have key := loop_fill a id (fun i out => laws_toPutS_l3 a i out) id (fun out ho => by rw [laws_toPutS_l3_eq, sif_f (by omega)]; rfl) (fun i x out hx hi ho => by
    rw [laws_toPutS_l3_eq, sif_t (by omega), idx_some hx, sbind_some, toPut_some x (Nat.le_trans (bulk_mem (mem_of_at hx)) hb), sbind_some, sif_pos (lt3_ok (by omega) (by omega)), wi64_add1 (by omega)]
    rfl) (List.replicate a.length ((0, (bs [])) : Int × ByteArray)) (by simp)
  rw [laws_toPutS_eq, sif_pos (by rw [le3_ok (by omega) (by omega), room_ok (by omega)]; rfl)]
  simpa using key
theorem toDisk_some (x : List ByteArray × List (Int × ByteArray) × Int × Bool) (hb : bulk_Disk x ≤ 1048576) : laws_toDisk x.1 x.2.1 x.2.2.1 x.2.2.2 = some (x.2.2.1, x.2.2.2, x.1, x.2.1) := by
  unfold bulk_Disk at hb
  rw [laws_toDisk_eq, toStringS_some x.1 (by omega), sbind_some, toPutS_some x.2.1 (by omega), sbind_some]
theorem toCut_some (x : Int × Int × Int) : laws_toCut x.1 x.2.1 x.2.2 = some (x.1, x.2.1, x.2.2) := by
  rw [laws_toCut_eq]
theorem eqStringS_refl (a : List ByteArray) (hb : bulkL ByteArray.size a ≤ 1048576) : laws_eqStringS a a = some true := by
  have hl : a.length ≤ 1048576 := Nat.le_trans (bulk_len ByteArray.size a) hb
  have key := loop_all a (fun i => laws_eqStringS_l4 a a (i : Int)) (some true) (by rw [laws_eqStringS_l4_eq, sif_f (by omega)]) (fun i x hx hi => by
    rw [laws_eqStringS_l4_eq, sif_t (by omega), idx_some hx, sbind_some, sbind_some, seq_self, Bool.not_true, sif_false, wi64_add1 (by omega)])
  rw [laws_eqStringS_eq, bne_self_eq_false, sif_false]
  exact key
theorem eqPut_refl (x : Int × ByteArray) (hb : bulk_Put x ≤ 1048576) : laws_eqPut x.1 x.2 x.1 x.2 = some true := by
  unfold bulk_Put at hb
  rw [laws_eqPut_eq]
  simp only [seq_self, bne_self_eq_false, beq_self_eq_true, Bool.not_true, Bool.not_false, sif_false, sif_true]
theorem eqPutS_refl (a : List (Int × ByteArray)) (hb : bulkL bulk_Put a ≤ 1048576) : laws_eqPutS a a = some true := by
  have hl : a.length ≤ 1048576 := Nat.le_trans (bulk_len bulk_Put a) hb
  have key := loop_all a (fun i => laws_eqPutS_l4 a a (i : Int)) (some true) (by rw [laws_eqPutS_l4_eq, sif_f (by omega)]) (fun i x hx hi => by
    rw [laws_eqPutS_l4_eq, sif_t (by omega), idx_some hx, sbind_some, sbind_some, eqPut_refl x (Nat.le_trans (bulk_mem (mem_of_at hx)) hb), sbind_some, Bool.not_true, sif_false, wi64_add1 (by omega)])
  rw [laws_eqPutS_eq, bne_self_eq_false, sif_false]
  exact key
theorem eqDisk_refl (x : List ByteArray × List (Int × ByteArray) × Int × Bool) (hb : bulk_Disk x ≤ 1048576) : laws_eqDisk x.1 x.2.1 x.2.2.1 x.2.2.2 x.1 x.2.1 x.2.2.1 x.2.2.2 = some true := by
  unfold bulk_Disk at hb
  rw [laws_eqDisk_eq, eqStringS_refl x.1 (by omega), sbind_some, eqPutS_refl x.2.1 (by omega), sbind_some]
  simp only [seq_self, bne_self_eq_false, beq_self_eq_true, Bool.not_true, Bool.not_false, sif_false, sif_true]
theorem markText_loop : ∀ (n : Nat) (k : Int) (out : ByteArray), k.toNat ≤ n → 0 ≤ k → k ≤ 9000000000000000000 → out.size + n ≤ 9000000000000000000 → ∃ r, laws_markText_l4 k out = some r := by
  intro n
  induction n with
  | zero =>
    intro k out h1 h2 h3 h4
    rw [laws_markText_l4_eq, sif_f (by omega), sif_pos (joins_ok (by rw [bs_size]; simp; omega))]
    exact ⟨_, rfl⟩
  | succ n ih =>
    intro k out h1 h2 h3 h4
    rw [laws_markText_l4_eq]
    by_cases c : k > 0
    · rw [sif_t c, sif_pos (joins_ok (by rw [toB_size]; simp; omega)), Int.tdiv_eq_ediv_of_nonneg h2, wi64_id (n := k / 10) (by omega) (by omega)]
      exact ih _ _ (by omega) (by omega) (by omega) (by rw [ByteArray.size_append, toB_size]; simp; omega)
    · rw [sif_f c, sif_pos (joins_ok (by rw [bs_size]; simp; omega))]
      exact ⟨_, rfl⟩
noncomputable def mt (k : Int) : ByteArray := (laws_markText k).getD (bs [])
theorem mt_some {k : Int} (h0 : 0 ≤ k) (h1 : k ≤ 4000000000000000000) : laws_markText k = some (mt k) := by
  have : ∃ r, laws_markText k = some r := by
    rw [laws_markText_eq]
    by_cases c : k ≤ 0
    · rw [sif_t c]; exact ⟨_, rfl⟩
    · rw [sif_f c]; exact markText_loop k.toNat k _ (Nat.le_refl _) (by omega) (by omega) (by rw [bs_size]; simp; omega)
  obtain ⟨r, hr⟩ := this
  unfold mt
  rw [hr]; rfl
noncomputable def mkd_StringS (k : Int) (x : ByteArray) : ByteArray := mt (k)
theorem markStringS_some (a : List ByteArray) (k : Int) (h0 : 0 ≤ k) (hB : k + cntL (fun _ => 1) a ≤ 1000000000000) (hl : a.length ≤ 1000000000000) : laws_markStringS_v k a = some (k + cntL (fun _ => 1) a, mkdL mkd_StringS (fun _ => 1) k a) := by
  rw [laws_markStringS_v_eq]
  refine mark_loop a mkd_StringS (fun _ => 1) 1000000000000 (fun k i a => laws_markStringS_v_l2 k i a) (fun k a => by rw [laws_markStringS_v_l2_eq, sif_f (by omega)]) (P := fun _ => True) (fun k i l x hx hi ha _ h0 hk => ?_) (fun _ _ => trivial) k h0 hB
  have hk' : k + 1 ≤ 1000000000000 := hk
  rw [← ha] at hl
  have ek : k + ((1 : Nat) : Int) = k + 1 := by omega
  have ei := wi64_add1 (n := i) (by omega)
  have lt : lt3 0 (i : Int) (l.length : Int) = true := lt3_ok (by omega) (by omega)
  have e1 : wi64 (k + 1) = k + 1 := wi64_id (by omega) (by omega)
  have t0 := mt_some (k := k) (by omega) (by omega)
  rw [ek, laws_markStringS_v_l2_eq, sif_t (by omega)]
  simp only [Int.toNat_natCast, List.length_set, lt, sif_true, hx, sbind_some, List.getElem?_set_self hi, List.set_set, e1, ei, t0]
  rfl
theorem heldStringS_some (a : List ByteArray) (k : Int) (h0 : 0 ≤ k) (hB : k + cntL (fun _ => 1) a ≤ 1000000000000) (hl : a.length ≤ 1000000000000) : laws_heldStringS (mkdL mkd_StringS (fun _ => 1) k a) k = some (k + cntL (fun _ => 1) a) := by
  have hlen := mkdL_len (mkd := mkd_StringS) (cnt := fun _ => 1) a k
  rw [laws_heldStringS_eq]
  refine held_loop mkd_StringS (fun _ => 1) 1000000000000 _ (fun k' i => laws_heldStringS_l2 (mkdL mkd_StringS (fun _ => 1) k a) k' i) (fun k' => by rw [laws_heldStringS_l2_eq, sif_f (by omega)]) (P := fun _ => True) (fun k i x hx hi _ h0 hk => ?_) a (fun _ _ => trivial) k h0 hB rfl
  have hk' : k + 1 ≤ 1000000000000 := hk
  have ek : k + ((1 : Nat) : Int) = k + 1 := by omega
  have ei := wi64_add1 (n := i) (by omega)
  have e1 : wi64 (k + 1) = k + 1 := wi64_id (by omega) (by omega)
  have t0 := mt_some (k := k) (by omega) (by omega)
  rw [ek, laws_heldStringS_l2_eq, sif_t (by omega), idx_some hx]
  simp only [sbind_some, mkd_StringS, bne_self_eq_false, beq_self_eq_true, seq_self, Bool.not_true, sif_false, e1, ei, t0]
noncomputable def mkd_PutS (k : Int) (x : Int × ByteArray) : Int × ByteArray := (k, mt (k + 1))
theorem markPutS_some (a : List (Int × ByteArray)) (k : Int) (h0 : 0 ≤ k) (hB : k + cntL (fun _ => 2) a ≤ 1000000000000) (hl : a.length ≤ 1000000000000) : laws_markPutS_v k a = some (k + cntL (fun _ => 2) a, mkdL mkd_PutS (fun _ => 2) k a) := by
  rw [laws_markPutS_v_eq]
  refine mark_loop a mkd_PutS (fun _ => 2) 1000000000000 (fun k i a => laws_markPutS_v_l2 k i a) (fun k a => by rw [laws_markPutS_v_l2_eq, sif_f (by omega)]) (P := fun _ => True) (fun k i l x hx hi ha _ h0 hk => ?_) (fun _ _ => trivial) k h0 hB
  have hk' : k + 2 ≤ 1000000000000 := hk
  rw [← ha] at hl
  have ek : k + ((2 : Nat) : Int) = k + 1 + 1 := by omega
  have ei := wi64_add1 (n := i) (by omega)
  have lt : lt3 0 (i : Int) (l.length : Int) = true := lt3_ok (by omega) (by omega)
  have e1 : wi64 (k + 1) = k + 1 := wi64_id (by omega) (by omega)
  have e2 : wi64 (k + 1 + 1) = k + 1 + 1 := wi64_id (by omega) (by omega)
  have t1 := mt_some (k := k + 1) (by omega) (by omega)
  rw [ek, laws_markPutS_v_l2_eq, sif_t (by omega)]
  simp only [Int.toNat_natCast, List.length_set, lt, sif_true, hx, sbind_some, List.getElem?_set_self hi, List.set_set, e1, e2, ei, t1]
  rfl
theorem heldPutS_some (a : List (Int × ByteArray)) (k : Int) (h0 : 0 ≤ k) (hB : k + cntL (fun _ => 2) a ≤ 1000000000000) (hl : a.length ≤ 1000000000000) : laws_heldPutS (mkdL mkd_PutS (fun _ => 2) k a) k = some (k + cntL (fun _ => 2) a) := by
  have hlen := mkdL_len (mkd := mkd_PutS) (cnt := fun _ => 2) a k
  rw [laws_heldPutS_eq]
  refine held_loop mkd_PutS (fun _ => 2) 1000000000000 _ (fun k' i => laws_heldPutS_l2 (mkdL mkd_PutS (fun _ => 2) k a) k' i) (fun k' => by rw [laws_heldPutS_l2_eq, sif_f (by omega)]) (P := fun _ => True) (fun k i x hx hi _ h0 hk => ?_) a (fun _ _ => trivial) k h0 hB rfl
  have hk' : k + 2 ≤ 1000000000000 := hk
  have ek : k + ((2 : Nat) : Int) = k + 1 + 1 := by omega
  have ei := wi64_add1 (n := i) (by omega)
  have e1 : wi64 (k + 1) = k + 1 := wi64_id (by omega) (by omega)
  have e2 : wi64 (k + 1 + 1) = k + 1 + 1 := wi64_id (by omega) (by omega)
  have t1 := mt_some (k := k + 1) (by omega) (by omega)
  rw [ek, laws_heldPutS_l2_eq, sif_t (by omega), idx_some hx]
  simp only [sbind_some, mkd_PutS, bne_self_eq_false, beq_self_eq_true, seq_self, Bool.not_true, sif_false, e1, e2, ei, t1]
theorem markDisk_held (x : List ByteArray × List (Int × ByteArray) × Int × Bool) (k : Int) (h0 : 0 ≤ k) (h1 : k ≤ 1000000) (hb : bulk_Disk x ≤ 1048576) : ∃ (m : Int) (y0 : List ByteArray) (y1 : List (Int × ByteArray)), laws_markDisk_vv x.2.2.1 x.2.2.2 k x.1 x.2.1 = some (m, y0, y1) ∧ laws_heldDisk y0 y1 x.2.2.1 x.2.2.2 k = some m ∧ 0 ≤ m := by
  unfold bulk_Disk at hb
  have l0 : x.1.length ≤ 1048576 := Nat.le_trans (bulk_len ByteArray.size x.1) (by omega)
  have c0 := cntL_le (cnt := fun _ => 1) (c := 1) (l := x.1) (fun _ _ => Nat.le_refl _)
  have l1 : x.2.1.length ≤ 1048576 := Nat.le_trans (bulk_len bulk_Put x.2.1) (by omega)
  have c1 := cntL_le (cnt := fun _ => 2) (c := 2) (l := x.2.1) (fun _ _ => Nat.le_refl _)
  refine ⟨_, _, _, by rw [laws_markDisk_vv_eq, markStringS_some x.1 (k) (by omega) (by omega) (by omega), sbind_some, markPutS_some x.2.1 (k + ((cntL (fun _ => 1) x.1 : Nat) : Int)) (by omega) (by omega) (by omega), sbind_some], ?_, ?_⟩
  · rw [laws_heldDisk_eq, heldStringS_some x.1 (k) (by omega) (by omega) (by omega), sbind_some, sif_f (by omega), heldPutS_some x.2.1 (k + ((cntL (fun _ => 1) x.1 : Nat) : Int)) (by omega) (by omega) (by omega), sbind_some, sif_f (by omega)]
  · omega
/-! within -/
theorem spec_l00In_some (n lo hi : Int) : spec_l00In n lo hi = some (inr n lo hi) := by rw [spec_l00In_eq, inr_sif]
theorem impl_within_some (n lo hi : Int) : impl_within n lo hi = some (inr n lo hi) := by rw [impl_within_eq, inr_sif]
/-! diskOk -/
def putOk (n : Int) (p : Int × ByteArray) : Bool := inr p.1 0 (n - 1) && ((p.2.size : Int) == 64)
def diskOk (B : List ByteArray) (P : List (Int × ByteArray)) (f : Int) : Bool :=
  inr B.length 16 256 && !decide ((P.length : Int) > 600) && inr f (-1) 100000 && B.all (fun b => (b.size : Int) == 64) && P.all (putOk B.length)
theorem spec_l09Ok_some (B : List ByteArray) (P : List (Int × ByteArray)) (f : Int) (o : Bool) : spec_l09Ok B P f o = some (diskOk B P f) := by
  unfold diskOk
  rw [spec_l09Ok_eq, spec_l00In_some, sbind_some]
  cases h1 : inr (B.length : Int) 16 256 with
  | false => rfl
  | true =>
    have hB := inr_iff.1 h1
    rw [Bool.not_true, sif_false]
    by_cases h2 : (P.length : Int) > 600
    · rw [sif_t h2, decide_eq_true h2]; rfl
    · rw [sif_f h2, spec_l00In_some, sbind_some, decide_eq_false h2]
      cases h3 : inr f (-1) 100000 with
      | false => rfl
      | true =>
        rw [Bool.not_true, sif_false]
        have k1 := all_loop B (fun b => (b.size : Int) == 64) (fun i => spec_l09Ok_l5 (B.length : Int) (i : Int) B P f o) false (fun i x hx hi => by
          rw [spec_l09Ok_l5_eq, sif_t (by omega), idx_some hx, sbind_some, wi64_add1 (by omega)]
          show sif (!((x.size : Int) == 64)) _ _ = _
          rw [sif_not])
        have k2 := all_loop P (putOk B.length) (fun i => spec_l09Ok_l10 (B.length : Int) (i : Int) B P f o) false (fun i x hx hi => by
          rw [spec_l09Ok_l10_eq, sif_t (by omega), idx_some hx, sbind_some, wi64_id (n := (B.length : Int) - 1) (by omega) (by omega), spec_l00In_some, sbind_some, sif_not, sbind_some, wi64_add1 (by omega)]
          unfold putOk
          show sif _ (sif (!((x.2.size : Int) == 64)) _ _) _ = _
          rw [sif_not]
          cases inr x.1 0 ((B.length : Int) - 1) <;> rfl)
        have e : spec_l09Ok_l5 (B.length : Int) (B.length : Int) B P f o = spec_l09Ok_l10 (B.length : Int) 0 B P f o := by rw [spec_l09Ok_l5_eq, sif_f (by omega)]
        have e2 : spec_l09Ok_l10 (B.length : Int) (P.length : Int) B P f o = some true := by rw [spec_l09Ok_l10_eq, sif_f (by omega)]
        refine k1.trans ?_
        rw [e]
        refine (congrArg (fun z => sif _ z _) k2).trans ?_
        rw [e2]
        cases B.all (fun b => (b.size : Int) == 64) <;> cases P.all (putOk B.length) <;> rfl
/-! implDisk -/
theorem impl_isBlock_some (b : ByteArray) : impl_isBlock b = some ((b.size : Int) == 64) := by rw [impl_isBlock_eq]
theorem impl_ValidDisk_1_some (b : ByteArray) : impl_ValidDisk_1 b = some (!((b.size : Int) == 64)) := by rw [impl_ValidDisk_1_eq, impl_isBlock_some, sbind_some]
theorem impl_isIndex_some (i n : Int) (h0 : 0 ≤ n) (h1 : n ≤ 1000000000000) : impl_isIndex i n = some (inr i 0 (n - 1)) := by
  rw [impl_isIndex_eq, wi64_id (by omega) (by omega), impl_within_some, sbind_some]
theorem impl_ValidDisk_2_some (p : Int × ByteArray) (B : List ByteArray) (P : List (Int × ByteArray)) (f : Int) (o : Bool) (h : B.length ≤ 1000000000000) : impl_ValidDisk_2 p.1 p.2 B P f o = some (!putOk B.length p) := by
  rw [impl_ValidDisk_2_eq, impl_isIndex_some _ _ (by omega) (by omega), sbind_some, impl_isBlock_some, sbind_some]
  unfold putOk
  cases inr p.1 0 ((B.length : Int) - 1) <;> rfl
theorem impl_ValidDisk_some (B : List ByteArray) (P : List (Int × ByteArray)) (f : Int) (o : Bool) : impl_ValidDisk B P f o = some (diskOk B P f) := by
  unfold diskOk
  rw [impl_ValidDisk_eq, impl_within_some, sbind_some]
  cases h1 : inr (B.length : Int) 16 256 with
  | false => rfl
  | true =>
    have hB := inr_iff.1 h1
    rw [Bool.not_true, sif_false]
    by_cases h2 : (P.length : Int) > 600
    · rw [sif_t h2, decide_eq_true h2]; rfl
    · rw [sif_f h2, impl_within_some, sbind_some, decide_eq_false h2]
      cases h3 : inr f (-1) 100000 with
      | false => rfl
      | true =>
        rw [Bool.not_true, sif_false]
        have k1 : slices_ContainsFunc_sstring_string_d_ValidDisk_1 B = some (B.any fun b => !((b.size : Int) == 64)) := by
          rw [slices_ContainsFunc_sstring_string_d_ValidDisk_1_eq, slices_IndexFunc_sstring_string_d_ValidDisk_1_eq]
          refine find_any (find_loop B _ (fun i => slices_IndexFunc_sstring_string_d_ValidDisk_1_l2 B (B.length : Int) i) (by rw [slices_IndexFunc_sstring_string_d_ValidDisk_1_l2_eq, sif_f (by omega)]) (fun i x hx hi => ?_))
          rw [slices_IndexFunc_sstring_string_d_ValidDisk_1_l2_eq, sif_t (by omega), idx_some hx, sbind_some, impl_ValidDisk_1_some, sbind_some, wi64_add1 (by omega)]
        have k2 : slices_ContainsFunc_simpl_Put_impl_Put_d_ValidDisk_2 P B P f o = some (P.any fun p => !putOk B.length p) := by
          rw [slices_ContainsFunc_simpl_Put_impl_Put_d_ValidDisk_2_eq, slices_IndexFunc_simpl_Put_impl_Put_d_ValidDisk_2_eq]
          refine find_any (find_loop P _ (fun i => slices_IndexFunc_simpl_Put_impl_Put_d_ValidDisk_2_l2 P (P.length : Int) i B P f o) (by rw [slices_IndexFunc_simpl_Put_impl_Put_d_ValidDisk_2_l2_eq, sif_f (by omega)]) (fun i x hx hi => ?_))
          rw [slices_IndexFunc_simpl_Put_impl_Put_d_ValidDisk_2_l2_eq, sif_t (by omega), idx_some hx, sbind_some, impl_ValidDisk_2_some _ _ _ _ _ (by omega), sbind_some, wi64_add1 (by omega)]
        rw [k1, sbind_some, any_not_all B (fun b => (b.size : Int) == 64) _ (fun _ _ => rfl), k2, any_not_all P (putOk B.length) _ (fun _ _ => rfl), sbind_some]
        cases B.all (fun b => (b.size : Int) == 64) <;> cases P.all (putOk B.length) <;> rfl
/-! diskClone -/
theorem spec_l09Own_some (B : List ByteArray) (P : List (Int × ByteArray)) (f : Int) (o : Bool) (h : B.length ≤ 1048576) (h' : P.length ≤ 1048576) : spec_l09Own B P f o = some (f, o, B, P) := by
  rw [spec_l09Own_eq, sif_pos (room_ok (by omega)), sif_pos (room_ok (by omega))]
theorem clone_s (s : List ByteArray) (h : s.length ≤ 1048576) : slices_Clone_sstring_string s = some s := by
  rw [slices_Clone_sstring_string_eq, sif_pos (room_ok (by omega))]
  cases s with
  | nil => simp
  | cons a l => rfl
/-! diskLaw -/
theorem sm_of (B : List ByteArray) (P : List (Int × ByteArray)) (f : Int) (o : Bool) (p1 : B.length * 16 ≤ 140737488351232) (p2 : ∀ e_ ∈ B, e_.size ≤ 140737488351232) (p3 : P.length * 24 ≤ 140737488351232) (p4 : ∀ e_ ∈ P, ((Lit.int .i64 e_.1).wf = true) ∧ (e_.2.size ≤ 140737488351232)) : sm_Disk (B, P, f, o) :=
  ⟨⟨by dsimp only; omega, fun x hx => by have := p2 x hx; omega⟩, ⟨by dsimp only; omega, fun x hx => by have := (p4 x hx).2; unfold sm_Put; omega⟩⟩
theorem disk_len {B : List ByteArray} {P : List (Int × ByteArray)} {f : Int} {o : Bool} (hb : bulk_Disk (B, P, f, o) ≤ 1048576) : B.length ≤ 1048576 ∧ P.length ≤ 1048576 :=
  ⟨Nat.le_trans (bulk_len ByteArray.size B) (Nat.le_trans (Nat.le_add_right _ _) hb), Nat.le_trans (bulk_len bulk_Put P) (Nat.le_trans (Nat.le_add_left _ _) hb)⟩
theorem disk_empty (f : Int) (o : Bool) : bulk_Disk ([], [], f, o) ≤ 1048576 := by simp [bulk_Disk, bulkL]
theorem sum_le {α : Type} (b : α → Nat) (c : Nat) : ∀ (l : List α), (∀ x ∈ l, b x ≤ c) → (l.map b).sum ≤ l.length * c
  | [], _ => by simp
  | x :: l, h => by
    have := sum_le b c l (fun y hy => h y (by simp [hy]))
    have := h x (by simp)
    rw [List.map_cons, List.sum_cons, List.length_cons, Nat.succ_mul]; omega
theorem disk_ok {B : List ByteArray} {P : List (Int × ByteArray)} {f : Int} (h : diskOk B P f = true) : 16 ≤ B.length ∧ B.length ≤ 256 ∧ P.length ≤ 600 ∧ -1 ≤ f ∧ f ≤ 100000 ∧ (∀ b ∈ B, b.size = 64) ∧ ∀ p ∈ P, 0 ≤ p.1 ∧ p.1 < B.length ∧ p.2.size = 64 := by
  unfold diskOk at h
  simp only [Bool.and_eq_true, inr_iff, List.all_eq_true, Bool.not_eq_true', decide_eq_false_iff_not, beq_iff_eq, putOk] at h
  obtain ⟨⟨⟨⟨h1, h2⟩, h3⟩, h4⟩, h5⟩ := h
  exact ⟨by omega, by omega, by omega, by omega, by omega, fun b hb => by have := h4 b hb; omega, fun p hp => by have := h5 p hp; exact ⟨by omega, by omega, by omega⟩⟩
theorem disk_bulk {B : List ByteArray} {P : List (Int × ByteArray)} {f : Int} {o : Bool} (h1 : B.length ≤ 256) (h2 : P.length ≤ 601) (h3 : ∀ b ∈ B, b.size = 64) (h4 : ∀ p ∈ P, p.2.size = 64) : bulk_Disk (B, P, f, o) ≤ 1048576 := by
  have a := sum_le ByteArray.size 64 B (fun b hb => by have := h3 b hb; omega)
  have b := sum_le bulk_Put 64 P (fun p hp => by have := h4 p hp; unfold bulk_Put; omega)
  show bulkL ByteArray.size B + bulkL bulk_Put P ≤ _
  unfold bulkL
  omega
def powM (f : Int) (o : Bool) : Bool × Int × Bool := if (o || f == 0) = true then (false, f, true) else (true, (if f > 0 then f - 1 else f), o)
/-! FnExactCutDisk -/
def cutOk (m t b : Int) : Bool := inr m 0 1073741823 && (inr t (-1) 599 && inr b 0 64)
theorem spec_ValidCut_some (m t b : Int) : spec_ValidCut m t b = some (cutOk m t b) := by
  rw [spec_ValidCut_eq, spec_l00In_some, spec_l00In_some, spec_l00In_some]
  simp only [sbind_some, sif_bool]; rfl
theorem impl_ValidCut_some (m t b : Int) : impl_ValidCut m t b = some (cutOk m t b) := by
  rw [impl_ValidCut_eq, impl_within_some, impl_within_some, impl_within_some]
  simp only [sbind_some, sif_bool]; rfl
def keptBit (m : Int) (i : Nat) : Bool := bits .and .i64 (Int.fdiv m (2 ^ (min (Int.tmod (i : Int) 30).toNat 64))) 1 == 1
def keptL (m : Int) (n : Nat) : List Bool := (List.range n).map (keptBit m)
theorem tmod30 (i : Nat) : 0 ≤ Int.tmod (i : Int) 30 ∧ Int.tmod (i : Int) 30 < 30 := by rw [Int.tmod_eq_emod_of_nonneg (by omega)]; omega
theorem spec_kept_loop (m t b : Int) (n : Nat) (hn : n ≤ 600) : spec_l30Kept_l3 (n : Int) 0 m t b [] = some (keptL m n) := by
  have := loop_to n (fun i out => spec_l30Kept_l3 (n : Int) (i : Int) m t b out) (fun _ _ => some (keptL m n)) (fun i out => out = keptL m i) (fun out ho => by subst ho; rw [spec_l30Kept_l3_eq, sif_f (by omega)])
    (fun i out hi ho ih => by
      have h30 := tmod30 i
      rw [spec_l30Kept_l3_eq, sif_t (by omega), wu64_id (by omega) (by omega), sif_f (by omega), sif_pos (room_ok (by rw [ho]; simp [keptL]; omega)), wi64_add1 (by omega)]
      refine ih _ ?_
      rw [ho]; unfold keptL; rw [List.range_succ, List.map_append]; rfl) 0 [] (by omega) rfl
  simpa using this
theorem impl_kept_loop (m t b : Int) (n : Nat) (hn : n ≤ 600) : impl_Cut_kept_l3 (n : Int) 0 m t b [] = some (keptL m n) := by
  have := loop_to n (fun i out => impl_Cut_kept_l3 (n : Int) (i : Int) m t b out) (fun _ _ => some (keptL m n)) (fun i out => out = keptL m i) (fun out ho => by subst ho; rw [impl_Cut_kept_l3_eq, sif_f (by omega)])
    (fun i out hi ho ih => by
      have h30 := tmod30 i
      rw [impl_Cut_kept_l3_eq, sif_t (by omega), sif_f (by omega), sif_pos (room_ok (by rw [ho]; simp [keptL]; omega)), wi64_add1 (by omega)]
      refine ih _ ?_
      rw [ho]; unfold keptL; rw [List.range_succ, List.map_append]; rfl) 0 [] (by omega) rfl
  simpa using this
def cutStep (torn by_ : Int) (kept : List Bool) (i : Nat) (p : Int × ByteArray) (B : List ByteArray) : List ByteArray :=
  if (i : Int) = torn then B.set p.1.toNat (p.2.extract 0 by_.toNat ++ ((B[p.1.toNat]?).getD (bs [])).extract by_.toNat 64)
  else if kept[i]? = some true then B.set p.1.toNat p.2 else B
def cutAll (torn by_ : Int) (kept : List Bool) : Nat → List (Int × ByteArray) → List ByteArray → List ByteArray
  | _, [], B => B
  | i, p :: P, B => cutAll torn by_ kept (i + 1) P (cutStep torn by_ kept i p B)
def cutInv (n : Nat) (B : List ByteArray) : Prop := B.length = n ∧ ∀ b ∈ B, b.size = 64
theorem cutInv_at {n : Nat} {B : List ByteArray} (h : cutInv n B) {k : Int} (h0 : 0 ≤ k) (h1 : k < n) : ∃ b, B[k.toNat]? = some b ∧ b.size = 64 := by
  have hlt : k.toNat < B.length := by rw [h.1]; omega
  exact ⟨B[k.toNat], List.getElem?_eq_getElem hlt, h.2 _ (List.getElem_mem hlt)⟩
theorem cutInv_set {n : Nat} {B : List ByteArray} (h : cutInv n B) (i : Nat) {x : ByteArray} (hx : x.size = 64) : cutInv n (B.set i x) := by
  refine ⟨by rw [List.length_set]; exact h.1, fun b hb => ?_⟩
  rcases List.mem_or_eq_of_mem_set hb with hb | rfl
  · exact h.2 b hb
  · exact hx
theorem torn_size {p b : ByteArray} {c : Int} (h0 : 0 ≤ c) (h1 : c ≤ 64) (hp : p.size = 64) (hb : b.size = 64) : (p.extract 0 c.toNat ++ b.extract c.toNat 64).size = 64 := by
  rw [ByteArray.size_append, ByteArray.size_extract, ByteArray.size_extract]; omega
theorem cutStep_inv {torn by_ : Int} {kept : List Bool} {i n : Nat} {p : Int × ByteArray} {B : List ByteArray} (h : cutInv n B) (hp : 0 ≤ p.1 ∧ p.1 < n ∧ p.2.size = 64) (h0 : 0 ≤ by_) (h1 : by_ ≤ 64) : cutInv n (cutStep torn by_ kept i p B) := by
  unfold cutStep
  obtain ⟨b, hb, hs⟩ := cutInv_at h hp.1 hp.2.1
  split
  · exact cutInv_set h _ (by rw [hb]; exact torn_size h0 h1 hp.2.2 hs)
  · split
    · exact cutInv_set h _ hp.2.2
    · exact h
theorem cutAll_inv {torn by_ : Int} {kept : List Bool} {n : Nat} (h0 : 0 ≤ by_) (h1 : by_ ≤ 64) : ∀ (P : List (Int × ByteArray)) (i : Nat) {B : List ByteArray}, cutInv n B → (∀ p ∈ P, 0 ≤ p.1 ∧ p.1 < n ∧ p.2.size = 64) → cutInv n (cutAll torn by_ kept i P B)
  | [], i, B, h, _ => h
  | p :: P, i, B, h, hp => cutAll_inv h0 h1 P (i + 1) (cutStep_inv h (hp p (by simp)) h0 h1) (fun q hq => hp q (by simp [hq]))
theorem extract_all {b : ByteArray} (h : b.size = 64) : b.extract 0 64 = b := by rw [← h]; exact ByteArray.extract_zero_size
theorem extract_end {b : ByteArray} (h : b.size = 64) : b.extract 64 64 = ByteArray.empty := by
  apply ByteArray.ext; apply Array.ext
  · simp [ByteArray.size_extract]
  · intro i hi; simp at hi
/-- a loop that counts its rounds -/
theorem loop_upI {α σ R : Type} (l : List α) (F : Nat → σ → Option R) (m : Nat → List α → σ → Option R) (Inv : Nat → σ → Prop) (h0 : ∀ s, Inv l.length s → F l.length s = m l.length [] s)
    (hs : ∀ i x r s, l[i]? = some x → i < l.length → Inv i s → (∀ s, Inv (i + 1) s → F (i + 1) s = m (i + 1) r s) → F i s = m i (x :: r) s) : ∀ s, Inv 0 s → F 0 s = m 0 l s := by
  have key : ∀ n i s, l.length = i + n → Inv i s → F i s = m i (l.drop i) s := by
    intro n
    induction n with
    | zero => intro i s hi hI; obtain rfl : i = l.length := by omega
              rw [List.drop_length]; exact h0 s hI
    | succ n ih =>
      intro i s hi hI
      have hlt : i < l.length := by omega
      rw [List.drop_eq_getElem_cons hlt]
      exact hs i _ _ s (List.getElem?_eq_getElem hlt) hlt hI (fun s hI' => ih (i + 1) s (by omega) hI')
  intro s hI
  simpa using key l.length 0 s (by omega) hI
theorem spec_cut_loop (m torn by_ : Int) (B0 : List ByteArray) (P : List (Int × ByteArray)) (f : Int) (o : Bool) (f1 : Int) (o1 : Bool) (f2 : Int) (o2 : Bool) (X : List ByteArray) (Y Z : List (Int × ByteArray)) (n : Nat) (hP : ∀ p ∈ P, 0 ≤ p.1 ∧ p.1 < n ∧ p.2.size = 64) (hn : n ≤ 256) (hl : P.length ≤ 600) (h0 : 0 ≤ by_) (h1 : by_ ≤ 64) (B : List ByteArray) (hB : cutInv n B) :
    spec_l09Cut_l3 (keptL m P.length) torn by_ 0 B0 P f o f1 o1 f2 o2 X Y B Z = some (-1, false, cutAll torn by_ (keptL m P.length) 0 P B, []) := by
  have := loop_upI P (fun i B => spec_l09Cut_l3 (keptL m P.length) torn by_ (i : Int) B0 P f o f1 o1 f2 o2 X Y B Z) (fun i r B => some (-1, false, cutAll torn by_ (keptL m P.length) i r B, [])) (fun _ B => cutInv n B)
    (fun B hB => by rw [spec_l09Cut_l3_eq, sif_f (by omega)]; rfl)
    (fun i x r B hx hi hI ih => by
      have hp := hP x (mem_of_at hx)
      obtain ⟨b, hb, hbs⟩ := cutInv_at hI hp.1 hp.2.1
      have ih' := ih _ (cutStep_inv (torn := torn) (by_ := by_) (kept := keptL m P.length) (i := i) hI hp h0 h1)
      show _ = some (-1, false, cutAll torn by_ (keptL m P.length) (i + 1) r (cutStep torn by_ (keptL m P.length) i x B), [])
      rw [← ih']
      have lt : lt3 0 x.1 (B.length : Int) = true := lt3_ok hp.1 (by rw [hI.1]; omega)
      have hk : idx (keptL m P.length) (i : Int) = some (keptBit m i) := by rw [idx_nat]; simp [keptL, hi]
      have hk' : (keptL m P.length)[i]? = some (keptBit m i) := by rw [← idx_nat, hk]
      rw [spec_l09Cut_l3_eq, sif_t (by omega), idx_some hx, sbind_some, wi64_add1 (by omega)]
      unfold cutStep
      by_cases ct : (i : Int) = torn
      · rw [if_pos ct, sif_pos (by simpa using ct), sif_pos (le3_ok h0 (by omega)), sif_pos lt, hb, sbind_some, sif_pos (le3_ok h0 (by omega)), sif_pos (joins_ok (by rw [ByteArray.size_extract, ByteArray.size_extract]; omega)), sif_pos lt, hbs]
        rfl
      · rw [if_neg ct, sif_neg (by simpa using ct), hk, sbind_some, hk']
        cases keptBit m i with
        | true => rw [sif_true, sif_pos lt, if_pos rfl]
        | false => rw [sif_false, if_neg (by decide)]) B hB
  simpa using this
theorem impl_cut_loop (m torn by_ : Int) (P : List (Int × ByteArray)) (f1 : Int) (o1 : Bool) (X : List ByteArray) (Y : List (Int × ByteArray)) (n : Nat) (hP : ∀ p ∈ P, 0 ≤ p.1 ∧ p.1 < n ∧ p.2.size = 64) (hn : n ≤ 256) (hl : P.length ≤ 600) (h0 : 0 ≤ by_) (h1 : by_ ≤ 64) (B : List ByteArray) (hB : cutInv n B) :
    impl_Disk_afterCut_l3 (keptL m P.length) torn by_ P (P.length : Int) 0 f1 o1 (-1) false X Y B [] = some (-1, false, cutAll torn by_ (keptL m P.length) 0 P B, []) := by
  have := loop_upI P (fun i B => impl_Disk_afterCut_l3 (keptL m P.length) torn by_ P (P.length : Int) (i : Int) f1 o1 (-1) false X Y B []) (fun i r B => some (-1, false, cutAll torn by_ (keptL m P.length) i r B, [])) (fun _ B => cutInv n B)
    (fun B hB => by rw [impl_Disk_afterCut_l3_eq, sif_f (by omega)]; rfl)
    (fun i x r B hx hi hI ih => by
      have hp := hP x (mem_of_at hx)
      obtain ⟨b, hb, hbs⟩ := cutInv_at hI hp.1 hp.2.1
      have ih' := ih _ (cutStep_inv (torn := torn) (by_ := by_) (kept := keptL m P.length) (i := i) hI hp h0 h1)
      show _ = some (-1, false, cutAll torn by_ (keptL m P.length) (i + 1) r (cutStep torn by_ (keptL m P.length) i x B), [])
      rw [← ih']
      have lt : lt3 0 x.1 (B.length : Int) = true := lt3_ok hp.1 (by rw [hI.1]; omega)
      have hk : idx (keptL m P.length) (i : Int) = some (keptBit m i) := by rw [idx_nat]; simp [keptL, hi]
      have hk' : (keptL m P.length)[i]? = some (keptBit m i) := by rw [← idx_nat, hk]
      rw [impl_Disk_afterCut_l3_eq, sif_t (by omega), idx_some hx, sbind_some, wi64_add1 (by omega)]
      unfold cutStep
      by_cases ct : (i : Int) = torn
      · rw [if_pos ct, sif_pos (by simpa using ct), sif_pos (le3_ok h0 (by omega)), sif_pos lt, hb, sbind_some, sif_pos (le3_ok h0 (by omega)), sif_pos (joins_ok (by rw [ByteArray.size_extract, ByteArray.size_extract]; omega)), sif_pos lt, hbs]
        rfl
      · rw [if_neg ct, sif_neg (by simpa using ct), hk, sbind_some, hk']
        cases keptBit m i with
        | true =>
          rw [sif_true, sif_pos (le3_ok (by omega) (by omega)), sif_pos lt, hb, sbind_some, sif_pos (le3_ok (by omega) (by omega)), sif_pos (joins_ok (by rw [ByteArray.size_extract, ByteArray.size_extract]; omega)), sif_pos lt, if_pos rfl, hbs, extract_all hp.2.2, extract_end hbs]
          simp
        | false =>
          rw [sif_false, sif_pos (le3_ok (by omega) (by omega)), sif_pos lt, hb, sbind_some, sif_pos (le3_ok (by omega) (by omega)), sif_pos (joins_ok (by rw [ByteArray.size_extract, ByteArray.size_extract]; omega)), sif_pos lt, if_neg (by decide), hbs, extract_all hbs]
          have e0 : x.2.extract 0 0 = ByteArray.empty := by
            apply ByteArray.ext; apply Array.ext
            · simp [ByteArray.size_extract]
            · intro i hi; simp at hi
          have e1 : B.set x.1.toNat b = B := by
            apply List.ext_getElem?
            intro j
            rw [List.getElem?_set]
            split
            · next e => subst e; rw [hb]; split
                        · rfl
                        · next hn => rw [List.getElem?_eq_none (by omega)] at hb; cases hb
            · rfl
          rw [e0, ByteArray.empty_append, e1]) B hB
  simpa using this
def cutM (B : List ByteArray) (P : List (Int × ByteArray)) (f : Int) (m t b : Int) : Int × Bool × Int × List ByteArray × List (Int × ByteArray) :=
  if diskOk B P f = true then (if cutOk m t b = true then (-1, false, 0, cutAll (if t ≥ (P.length : Int) then -1 else t) b (keptL m P.length) 0 P B, []) else (0, false, 1, [], [])) else (0, false, 1, [], [])
theorem cutOk_b {m t b : Int} (h : cutOk m t b = true) : 0 ≤ b ∧ b ≤ 64 := by
  unfold cutOk at h
  simp only [Bool.and_eq_true, inr_iff] at h
  exact ⟨by omega, by omega⟩
theorem spec_CutDisk_some (B : List ByteArray) (P : List (Int × ByteArray)) (f : Int) (o : Bool) (m t b : Int) (h : B.length ≤ 1048576) (h' : P.length ≤ 1048576) : spec_CutDisk B P f o m t b = some (cutM B P f m t b) := by
  unfold cutM
  rw [spec_CutDisk_eq, spec_l09Ok_some, sbind_some, spec_ValidCut_some, sbind_some]
  cases hd : diskOk B P f with
  | false => rfl
  | true =>
    obtain ⟨_, k2, k3, k4, k5, k6, k7⟩ := disk_ok hd
    rw [Bool.not_true, sif_false, if_pos rfl]
    cases hc : cutOk m t b with
    | false => rfl
    | true =>
      obtain ⟨b0, b1⟩ := cutOk_b hc
      rw [Bool.not_true, sif_false, if_pos rfl, spec_l30Cut_eq, spec_l30Kept_eq, spec_kept_loop m t b P.length k3, sbind_some, sbind_some, spec_l09Cut_eq, spec_l09Cut_eq, spec_l09Own_some B P f o h h', sbind_some, sbind_some,
        spec_cut_loop m (-1) b B P f o 0 false f o [] [] P B.length k7 k2 k3 b0 b1 B ⟨rfl, k6⟩, spec_cut_loop m t b B P f o 0 false f o [] [] P B.length k7 k2 k3 b0 b1 B ⟨rfl, k6⟩, sbind_some, sbind_some]
      by_cases ct : t ≥ (P.length : Int)
      · rw [sif_t ct, if_pos ct]; rfl
      · rw [sif_f ct, if_neg ct]; rfl
theorem impl_CutDisk_some (B : List ByteArray) (P : List (Int × ByteArray)) (f : Int) (o : Bool) (m t b : Int) (h : B.length ≤ 1048576) (h' : P.length ≤ 1048576) : impl_CutDisk B P f o m t b = some (cutM B P f m t b) := by
  unfold cutM
  rw [impl_CutDisk_eq, impl_ValidDisk_some, sbind_some, impl_ValidCut_some, sbind_some]
  cases hd : diskOk B P f with
  | false => rfl
  | true =>
    obtain ⟨_, k2, k3, k4, k5, k6, k7⟩ := disk_ok hd
    rw [Bool.not_true, sif_false, if_pos rfl]
    cases hc : cutOk m t b with
    | false => rfl
    | true =>
      obtain ⟨b0, b1⟩ := cutOk_b hc
      rw [Bool.not_true, sif_false, if_pos rfl, impl_Disk_cut_eq, impl_Cut_kept_eq, impl_kept_loop m t b P.length k3, sbind_some, sbind_some, impl_Disk_afterCut_eq, impl_Disk_afterCut_eq, clone_s B h, sbind_some, sbind_some,
        impl_cut_loop m (-1) b P 0 false [] [] B.length k7 k2 k3 b0 b1 B ⟨rfl, k6⟩, impl_cut_loop m t b P 0 false [] [] B.length k7 k2 k3 b0 b1 B ⟨rfl, k6⟩, sbind_some, sbind_some]
      by_cases ct : t ≥ (P.length : Int)
      · rw [sif_t ct, if_pos ct]; rfl
      · rw [sif_f ct, if_neg ct]; rfl
theorem pure_FnExactCutDisk (aD_Blocks : List ByteArray) (aD_Pending : List (Int × ByteArray)) (aD_Fuse : Int) (aD_Off : Bool) (aC_Mask : Int) (aC_Torn : Int) (aC_Bytes : Int) (O0 : (aD_Blocks.length ≤ maxLen ∧ aD_Blocks.length * 16 ≤ 140737488351232 ∧ ∀ e_ ∈ aD_Blocks, e_.size ≤ 140737488351232) ∧ (aD_Pending.length ≤ maxLen ∧ aD_Pending.length * 24 ≤ 140737488351232 ∧ ∀ e_ ∈ aD_Pending, ((Lit.int .i64 e_.1).wf = true) ∧ (e_.2.size ≤ 140737488351232)) ∧ ((Lit.int .i64 aD_Fuse).wf = true) ∧ (True)) (O1 : ((Lit.int .i64 aC_Mask).wf = true) ∧ ((Lit.int .i64 aC_Torn).wf = true) ∧ ((Lit.int .i64 aC_Bytes).wf = true)) : laws_FnExactCutDisk aD_Blocks aD_Pending aD_Fuse aD_Off aC_Mask aC_Torn aC_Bytes = some true := by
  obtain ⟨⟨_, p1, p2⟩, ⟨_, p3, p4⟩, _⟩ := O0
  have e0 : laws_szDisk aD_Blocks aD_Pending aD_Fuse aD_Off 1048576 = _ := szDisk_some (aD_Blocks, aD_Pending, aD_Fuse, aD_Off) 1048576 (sm_of _ _ _ _ p1 p2 p3 p4) (by omega) (by omega)
  rw [laws_FnExactCutDisk_eq, e0, sbind_some]
  by_cases c : ((bulk_Disk (aD_Blocks, aD_Pending, aD_Fuse, aD_Off) : Nat) : Int) ≤ 1048576
  · rw [if_pos c, sif_f (by omega)]
    have hb : bulk_Disk (aD_Blocks, aD_Pending, aD_Fuse, aD_Off) ≤ 1048576 := by omega
    have t : laws_toDisk aD_Blocks aD_Pending aD_Fuse aD_Off = some (aD_Fuse, aD_Off, aD_Blocks, aD_Pending) := toDisk_some (aD_Blocks, aD_Pending, aD_Fuse, aD_Off) hb
    obtain ⟨lb, lp⟩ := disk_len hb
    have hbR : bulk_Disk ((cutM aD_Blocks aD_Pending aD_Fuse aC_Mask aC_Torn aC_Bytes).2.2.2.1, (cutM aD_Blocks aD_Pending aD_Fuse aC_Mask aC_Torn aC_Bytes).2.2.2.2, (cutM aD_Blocks aD_Pending aD_Fuse aC_Mask aC_Torn aC_Bytes).1, (cutM aD_Blocks aD_Pending aD_Fuse aC_Mask aC_Torn aC_Bytes).2.1) ≤ 1048576 := by
      unfold cutM
      split
      · next hd =>
        obtain ⟨_, k2, k3, k4, k5, k6, k7⟩ := disk_ok hd
        split
        · next hc =>
          obtain ⟨b0, b1⟩ := cutOk_b hc
          obtain ⟨q1, q2⟩ := cutAll_inv (torn := if aC_Torn ≥ (aD_Pending.length : Int) then -1 else aC_Torn) (kept := keptL aC_Mask aD_Pending.length) (n := aD_Blocks.length) b0 b1 aD_Pending 0 ⟨rfl, k6⟩ k7
          exact disk_bulk (by rw [q1]; exact k2) (by simp) q2 (by simp)
        · exact disk_empty _ _
      · exact disk_empty _ _
    simp only [t, laws_toCut_eq, sbind_some, spec_CutDisk_some aD_Blocks aD_Pending aD_Fuse aD_Off aC_Mask aC_Torn aC_Bytes lb lp, impl_CutDisk_some aD_Blocks aD_Pending aD_Fuse aD_Off aC_Mask aC_Torn aC_Bytes lb lp]
    generalize cutM aD_Blocks aD_Pending aD_Fuse aC_Mask aC_Torn aC_Bytes = R at hbR
    have q : laws_eqDisk R.2.2.2.1 R.2.2.2.2 R.1 R.2.1 R.2.2.2.1 R.2.2.2.2 R.1 R.2.1 = some true := eqDisk_refl (R.2.2.2.1, R.2.2.2.2, R.1, R.2.1) hbR
    have q0 : laws_eqDisk aD_Blocks aD_Pending aD_Fuse aD_Off aD_Blocks aD_Pending aD_Fuse aD_Off = some true := eqDisk_refl (aD_Blocks, aD_Pending, aD_Fuse, aD_Off) hb
    obtain ⟨m0, y0, z0, a1, a2, a3⟩ := markDisk_held (aD_Blocks, aD_Pending, aD_Fuse, aD_Off) 1 (by omega) (by omega) hb
    obtain ⟨m1, y1, z1, b1, b2, b3⟩ := markDisk_held (R.2.2.2.1, R.2.2.2.2, R.1, R.2.1) 1 (by omega) (by omega) hbR
    dsimp only at a1 b1 b2
    simp only [q, q0, sbind_some, Bool.not_true, sif_false, bne_self_eq_false, a1, b1, b2]
    rw [sif_f (by omega), sif_f (by omega), sif_f (by omega)]
  · rw [if_neg c, sif_t (by omega)]
end Go.Ve.X
