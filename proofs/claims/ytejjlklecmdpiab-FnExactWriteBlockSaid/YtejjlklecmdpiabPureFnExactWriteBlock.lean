/- What 'FnExactWriteBlock' comes to, in plain words over numbers, texts and lists: each function that it reaches answers what is told; put together, the law answers true. No condition but the sizes that come in. -/
import Derived.Test.YtejjlklecmdpiabEqFnExactWriteBlock
namespace Go.Ve.X
open Go.Ve
set_option linter.all false
set_option maxRecDepth 100000
def bulk_Put (x : Int × ByteArray) : Nat := x.2.size
theorem szStringS_some (a : List ByteArray) (left : Int) (hs : smL (fun x => x.size ≤ 140737488355328) a) (h0 : 0 ≤ left) (h1 : left ≤ 1048576) : laws_szStringS a left = some (if ((bulkL ByteArray.size a : Nat) : Int) ≤ left then left - ((bulkL ByteArray.size a : Nat) : Int) else -1) := by
  have hl := hs.1
  have key := fun (h0 : 0 ≤ left - (a.length : Int)) => sz_loop a ByteArray.size (fun left i => laws_szStringS_l5 a left i) (fun left => by rw [laws_szStringS_l5_eq, sif_f (by omega)]) (fun i x left hx hi h0 h1 => by
    have hx' : x.size ≤ 140737488355328 := hs.2 x (mem_of_at hx)
    rw [laws_szStringS_l5_eq, sif_t (by omega), idx_some hx, sbind_some, wi64_id (by omega) (by omega), wi64_add1 (by omega)]
    by_cases c : (x.size : Int) ≤ left
    · rw [if_pos c, sif_f (by omega)]
    · rw [if_neg c, sif_t (by omega)]) (left - (a.length : Int)) h0 (by omega)
  rw [laws_szStringS_eq, wi64_id (by omega) (by omega)]
  by_cases c : (a.length : Int) ≤ left
  · rw [sif_f (by omega), key (by omega)]
    unfold bulkL
    by_cases c2 : (((a.map ByteArray.size).sum : Nat) : Int) ≤ left - a.length
    · rw [if_pos c2, if_pos (by omega)]; congr 1; omega
    · rw [if_neg c2, if_neg (by omega)]
  · rw [sif_t (by omega), if_neg (by have := bulk_len ByteArray.size a; omega)]
def sm_Put (x : Int × ByteArray) : Prop := x.2.size ≤ 140737488355328
theorem szPut_some (x : Int × ByteArray) (left : Int) (hs : sm_Put x) (h0 : 0 ≤ left) (h1 : left ≤ 1048576) : laws_szPut x.1 x.2 left = some (if ((bulk_Put x : Nat) : Int) ≤ left then left - ((bulk_Put x : Nat) : Int) else -1) := by
  have hb : ((bulk_Put x : Nat) : Int) = ((x.2.size : Nat) : Int) := by unfold bulk_Put; omega
  unfold sm_Put at hs
  obtain s0 := hs
  rw [laws_szPut_eq]
  rw [wi64_id (by omega) (by omega)]
  by_cases c0 : ((x.2.size : Nat) : Int) ≤ left
  · rw [sif_f (by omega)]
    rw [if_pos (by omega)]; exact congrArg some (by omega)
  · rw [sif_t (by omega), if_neg (by omega)]
theorem szPutS_some (a : List (Int × ByteArray)) (left : Int) (hs : smL sm_Put a) (h0 : 0 ≤ left) (h1 : left ≤ 1048576) : laws_szPutS a left = some (if ((bulkL bulk_Put a : Nat) : Int) ≤ left then left - ((bulkL bulk_Put a : Nat) : Int) else -1) := by
  have hl := hs.1
  have key := fun (h0 : 0 ≤ left - (a.length : Int)) => sz_loop a bulk_Put (fun left i => laws_szPutS_l5 a left i) (fun left => by rw [laws_szPutS_l5_eq, sif_f (by omega)]) (fun i x left hx hi h0 h1 => by
    have hb : laws_szPutS_l5 a left (i : Int) = sbind (laws_szPut x.1 x.2 left) (fun r => sif (decide (r < 0)) (some (-1)) (laws_szPutS_l5 a r (wi64 ((i : Int) + 1)))) := by rw [laws_szPutS_l5_eq, sif_t (by omega), idx_some hx, sbind_some]
    rw [hb, szPut_some x left (hs.2 x (mem_of_at hx)) h0 h1, sbind_some, wi64_add1 (by omega)]
    by_cases c : ((bulk_Put x : Nat) : Int) ≤ left
    · rw [if_pos c, if_pos c, sif_f (by omega)]
    · rw [if_neg c, if_neg c, sif_t (by omega)]) (left - (a.length : Int)) h0 (by omega)
  rw [laws_szPutS_eq, wi64_id (by omega) (by omega)]
  by_cases c : (a.length : Int) ≤ left
  · rw [sif_f (by omega), key (by omega)]
    unfold bulkL
    by_cases c2 : (((a.map bulk_Put).sum : Nat) : Int) ≤ left - a.length
    · rw [if_pos c2, if_pos (by omega)]; congr 1; omega
    · rw [if_neg c2, if_neg (by omega)]
  · rw [sif_t (by omega), if_neg (by have := bulk_len bulk_Put a; omega)]
def bulk_Disk (x : List ByteArray × List (Int × ByteArray) × Int × Bool) : Nat := (bulkL ByteArray.size x.1) + (bulkL bulk_Put x.2.1)
def sm_Disk (x : List ByteArray × List (Int × ByteArray) × Int × Bool) : Prop := (smL (fun x => x.size ≤ 140737488355328) x.1) ∧ (smL sm_Put x.2.1)
theorem szDisk_some (x : List ByteArray × List (Int × ByteArray) × Int × Bool) (left : Int) (hs : sm_Disk x) (h0 : 0 ≤ left) (h1 : left ≤ 1048576) : laws_szDisk x.1 x.2.1 x.2.2.1 x.2.2.2 left = some (if ((bulk_Disk x : Nat) : Int) ≤ left then left - ((bulk_Disk x : Nat) : Int) else -1) := by
  have hb : ((bulk_Disk x : Nat) : Int) = ((bulkL ByteArray.size x.1 : Nat) : Int) + ((bulkL bulk_Put x.2.1 : Nat) : Int) := by unfold bulk_Disk; omega
  unfold sm_Disk at hs
  obtain ⟨s0, s1⟩ := hs
  rw [laws_szDisk_eq]
  rw [szStringS_some x.1 (left) s0 (by omega) (by omega), sbind_some]
  by_cases c0 : ((bulkL ByteArray.size x.1 : Nat) : Int) ≤ left
  · rw [if_pos c0, sif_f (by omega)]
    rw [szPutS_some x.2.1 (left - ((bulkL ByteArray.size x.1 : Nat) : Int)) s1 (by omega) (by omega), sbind_some]
    by_cases c1 : ((bulkL bulk_Put x.2.1 : Nat) : Int) ≤ left - ((bulkL ByteArray.size x.1 : Nat) : Int)
    · rw [if_pos c1, sif_f (by omega)]
      rw [if_pos (by omega)]; exact congrArg some (by omega)
    · rw [if_neg c1, sif_t (by omega), if_neg (by omega)]
  · rw [if_neg c0, sif_t (by omega), if_neg (by omega)]
theorem toStringS_some (a : List ByteArray) (hb : bulkL ByteArray.size a ≤ 1048576) : laws_toStringS a = some a := by
  have hl : a.length ≤ 1048576 := Nat.le_trans (bulk_len ByteArray.size a) hb
  have key := loop_fill a id (fun i out => laws_toStringS_l3 a i out) id (fun out ho => by rw [laws_toStringS_l3_eq, sif_f (by omega)]; rfl) (fun i x out hx hi ho => by
    rw [laws_toStringS_l3_eq, sif_t (by omega), idx_some hx, sbind_some, sif_pos (lt3_ok (by omega) (by omega)), wi64_add1 (by omega)]
    rfl) (List.replicate a.length (bs [])) (by simp)
  rw [laws_toStringS_eq, sif_pos (by rw [le3_ok (by omega) (by omega), room_ok (by omega)]; rfl)]
  simpa using key
theorem toPut_some (x : Int × ByteArray) (hb : bulk_Put x ≤ 1048576) : laws_toPut x.1 x.2 = some (x.1, x.2) := by
  unfold bulk_Put at hb
  rw [laws_toPut_eq]
theorem toPutS_some (a : List (Int × ByteArray)) (hb : bulkL bulk_Put a ≤ 1048576) : laws_toPutS a = some a := by
  have hl : a.length ≤ 1048576 := Nat.le_trans (bulk_len bulk_Put a) hb
  have key := loop_fill a id (fun i out => laws_toPutS_l3 a i out) id (fun out ho => by rw [laws_toPutS_l3_eq, sif_f (by omega)]; rfl) (fun i x out hx hi ho => by
    rw [laws_toPutS_l3_eq, sif_t (by omega), idx_some hx, sbind_some, toPut_some x (Nat.le_trans (bulk_mem (mem_of_at hx)) hb), sbind_some, sif_pos (lt3_ok (by omega) (by omega)), wi64_add1 (by omega)]
    rfl) (List.replicate a.length ((0, (bs [])) : Int × ByteArray)) (by simp)
  rw [laws_toPutS_eq, sif_pos (by rw [le3_ok (by omega) (by omega), room_ok (by omega)]; rfl)]
  simpa using key
theorem toDisk_some (x : List ByteArray × List (Int × ByteArray) × Int × Bool) (hb : bulk_Disk x ≤ 1048576) : laws_toDisk x.1 x.2.1 x.2.2.1 x.2.2.2 = some (x.2.2.1, x.2.2.2, x.1, x.2.1) := by
  unfold bulk_Disk at hb
  rw [laws_toDisk_eq, toStringS_some x.1 (by omega), sbind_some, toPutS_some x.2.1 (by omega), sbind_some]
theorem eqStringS_refl (a : List ByteArray) (hb : bulkL ByteArray.size a ≤ 1048576) : laws_eqStringS a a = some true := by
  have hl : a.length ≤ 1048576 := Nat.le_trans (bulk_len ByteArray.size a) hb
  have key := loop_all a (fun i => laws_eqStringS_l4 a a (i : Int)) (some true) (by rw [laws_eqStringS_l4_eq, sif_f (by omega)]) (fun i x hx hi => by
    rw [laws_eqStringS_l4_eq, sif_t (by omega), idx_some hx, sbind_some, sbind_some, seq_self, Bool.not_true, sif_false, wi64_add1 (by omega)])
  rw [laws_eqStringS_eq, bne_self_eq_false, sif_false]
  exact key
theorem eqPut_refl (x : Int × ByteArray) (hb : bulk_Put x ≤ 1048576) : laws_eqPut x.1 x.2 x.1 x.2 = some true := by
  unfold bulk_Put at hb
  rw [laws_eqPut_eq]
  simp only [seq_self, bne_self_eq_false, beq_self_eq_true, Bool.not_true, Bool.not_false, sif_false, sif_true]
theorem eqPutS_refl (a : List (Int × ByteArray)) (hb : bulkL bulk_Put a ≤ 1048576) : laws_eqPutS a a = some true := by
  have hl : a.length ≤ 1048576 := Nat.le_trans (bulk_len bulk_Put a) hb
  have key := loop_all a (fun i => laws_eqPutS_l4 a a (i : Int)) (some true) (by rw [laws_eqPutS_l4_eq, sif_f (by omega)]) (fun i x hx hi => by
    rw [laws_eqPutS_l4_eq, sif_t (by omega), idx_some hx, sbind_some, sbind_some, eqPut_refl x (Nat.le_trans (bulk_mem (mem_of_at hx)) hb), sbind_some, Bool.not_true, sif_false, wi64_add1 (by omega)])
  rw [laws_eqPutS_eq, bne_self_eq_false, sif_false]
  exact key
theorem eqDisk_refl (x : List ByteArray × List (Int × ByteArray) × Int × Bool) (hb : bulk_Disk x ≤ 1048576) : laws_eqDisk x.1 x.2.1 x.2.2.1 x.2.2.2 x.1 x.2.1 x.2.2.1 x.2.2.2 = some true := by
  unfold bulk_Disk at hb
  rw [laws_eqDisk_eq, eqStringS_refl x.1 (by omega), sbind_some, eqPutS_refl x.2.1 (by omega), sbind_some]
  simp only [seq_self, bne_self_eq_false, beq_self_eq_true, Bool.not_true, Bool.not_false, sif_false, sif_true]
theorem markText_loop : ∀ (n : Nat) (k : Int) (out : ByteArray), k.toNat ≤ n → 0 ≤ k → k ≤ 9000000000000000000 → out.size + n ≤ 9000000000000000000 → ∃ r, laws_markText_l4 k out = some r := by
  intro n
  induction n with
  | zero =>
    intro k out h1 h2 h3 h4
    rw [laws_markText_l4_eq, sif_f (by omega), sif_pos (joins_ok (by rw [bs_size]; simp; omega))]
    exact ⟨_, rfl⟩
  | succ n ih =>
    intro k out h1 h2 h3 h4
    rw [laws_markText_l4_eq]
    by_cases c : k > 0
    · rw [sif_t c, sif_pos (joins_ok (by rw [toB_size]; simp; omega)), Int.tdiv_eq_ediv_of_nonneg h2, wi64_id (n := k / 10) (by omega) (by omega)]
      exact ih _ _ (by omega) (by omega) (by omega) (by rw [ByteArray.size_append, toB_size]; simp; omega)
    · rw [sif_f c, sif_pos (joins_ok (by rw [bs_size]; simp; omega))]
      exact ⟨_, rfl⟩
noncomputable def mt (k : Int) : ByteArray := (laws_markText k).getD (bs [])
theorem mt_some {k : Int} (h0 : 0 ≤ k) (h1 : k ≤ 4000000000000000000) : laws_markText k = some (mt k) := by
  have : ∃ r, laws_markText k = some r := by
    rw [laws_markText_eq]
    by_cases c : k ≤ 0
    · rw [sif_t c]; exact ⟨_, rfl⟩
    · rw [sif_f c]; exact markText_loop k.toNat k _ (Nat.le_refl _) (by omega) (by omega) (by rw [bs_size]; simp; omega)
  obtain ⟨r, hr⟩ := this
  unfold mt
  rw [hr]; rfl
noncomputable def mkd_StringS (k : Int) (x : ByteArray) : ByteArray := mt (k)
theorem markStringS_some (a : List ByteArray) (k : Int) (h0 : 0 ≤ k) (hB : k + cntL (fun _ => 1) a ≤ 1000000000000) (hl : a.length ≤ 1000000000000) : laws_markStringS_v k a = some (k + cntL (fun _ => 1) a, mkdL mkd_StringS (fun _ => 1) k a) := by
  rw [laws_markStringS_v_eq]
  refine mark_loop a mkd_StringS (fun _ => 1) 1000000000000 (fun k i a => laws_markStringS_v_l2 k i a) (fun k a => by rw [laws_markStringS_v_l2_eq, sif_f (by omega)]) (P := fun _ => True) (fun k i l x hx hi ha _ h0 hk => ?_) (fun _ _ => trivial) k h0 hB
  have hk' : k + 1 ≤ 1000000000000 := hk
  rw [← ha] at hl
  have ek : k + ((1 : Nat) : Int) = k + 1 := by omega
  have ei := wi64_add1 (n := i) (by omega)
  have lt : lt3 0 (i : Int) (l.length : Int) = true := lt3_ok (by omega) (by omega)
  have e1 : wi64 (k + 1) = k + 1 := wi64_id (by omega) (by omega)
  have t0 := mt_some (k := k) (by omega) (by omega)
  rw [ek, laws_markStringS_v_l2_eq, sif_t (by omega)]
  simp only [Int.toNat_natCast, List.length_set, lt, sif_true, hx, sbind_some, List.getElem?_set_self hi, List.set_set, e1, ei, t0]
  rfl
theorem heldStringS_some (a : List ByteArray) (k : Int) (h0 : 0 ≤ k) (hB : k + cntL (fun _ => 1) a ≤ 1000000000000) (hl : a.length ≤ 1000000000000) : laws_heldStringS (mkdL mkd_StringS (fun _ => 1) k a) k = some (k + cntL (fun _ => 1) a) := by
  have hlen := mkdL_len (mkd := mkd_StringS) (cnt := fun _ => 1) a k
  rw [laws_heldStringS_eq]
  refine held_loop mkd_StringS (fun _ => 1) 1000000000000 _ (fun k' i => laws_heldStringS_l2 (mkdL mkd_StringS (fun _ => 1) k a) k' i) (fun k' => by rw [laws_heldStringS_l2_eq, sif_f (by omega)]) (P := fun _ => True) (fun k i x hx hi _ h0 hk => ?_) a (fun _ _ => trivial) k h0 hB rfl
  have hk' : k + 1 ≤ 1000000000000 := hk
  have ek : k + ((1 : Nat) : Int) = k + 1 := by omega
  have ei := wi64_add1 (n := i) (by omega)
  have e1 : wi64 (k + 1) = k + 1 := wi64_id (by omega) (by omega)
  have t0 := mt_some (k := k) (by omega) (by omega)
  rw [ek, laws_heldStringS_l2_eq, sif_t (by omega), idx_some hx]
  simp only [sbind_some, mkd_StringS, bne_self_eq_false, beq_self_eq_true, seq_self, Bool.not_true, sif_false, e1, ei, t0]
noncomputable def mkd_PutS (k : Int) (x : Int × ByteArray) : Int × ByteArray := (k, mt (k + 1))
theorem markPutS_some (a : List (Int × ByteArray)) (k : Int) (h0 : 0 ≤ k) (hB : k + cntL (fun _ => 2) a ≤ 1000000000000) (hl : a.length ≤ 1000000000000) : laws_markPutS_v k a = some (k + cntL (fun _ => 2) a, mkdL mkd_PutS (fun _ => 2) k a) := by
  rw [laws_markPutS_v_eq]
  refine mark_loop a mkd_PutS (fun _ => 2) 1000000000000 (fun k i a => laws_markPutS_v_l2 k i a) (fun k a => by rw [laws_markPutS_v_l2_eq, sif_f (by omega)]) (P := fun _ => True) (fun k i l x hx hi ha _ h0 hk => ?_) (fun _ _ => trivial) k h0 hB
  have hk' : k + 2 ≤ 1000000000000 := hk
  rw [← ha] at hl
  have ek : k + ((2 : Nat) : Int) = k + 1 + 1 := by omega
  have ei := wi64_add1 (n := i) (by omega)
  have lt : lt3 0 (i : Int) (l.length : Int) = true := lt3_ok (by omega) (by omega)
  have e1 : wi64 (k + 1) = k + 1 := wi64_id (by omega) (by omega)
  have e2 : wi64 (k + 1 + 1) = k + 1 + 1 := wi64_id (by omega) (by omega)
  have t1 := mt_some (k := k + 1) (by omega) (by omega)
  rw [ek, laws_markPutS_v_l2_eq, sif_t (by omega)]
  simp only [Int.toNat_natCast, List.length_set, lt, sif_true, hx, sbind_some, List.getElem?_set_self hi, List.set_set, e1, e2, ei, t1]
  rfl
theorem heldPutS_some (a : List (Int × ByteArray)) (k : Int) (h0 : 0 ≤ k) (hB : k + cntL (fun _ => 2) a ≤ 1000000000000) (hl : a.length ≤ 1000000000000) : laws_heldPutS (mkdL mkd_PutS (fun _ => 2) k a) k = some (k + cntL (fun _ => 2) a) := by
  have hlen := mkdL_len (mkd := mkd_PutS) (cnt := fun _ => 2) a k
  rw [laws_heldPutS_eq]
  refine held_loop mkd_PutS (fun _ => 2) 1000000000000 _ (fun k' i => laws_heldPutS_l2 (mkdL mkd_PutS (fun _ => 2) k a) k' i) (fun k' => by rw [laws_heldPutS_l2_eq, sif_f (by omega)]) (P := fun _ => True) (fun k i x hx hi _ h0 hk => ?_) a (fun _ _ => trivial) k h0 hB rfl
  have hk' : k + 2 ≤ 1000000000000 := hk
  have ek : k + ((2 : Nat) : Int) = k + 1 + 1 := by omega
  have ei := wi64_add1 (n := i) (by omega)
  have e1 : wi64 (k + 1) = k + 1 := wi64_id (by omega) (by omega)
  have e2 : wi64 (k + 1 + 1) = k + 1 + 1 := wi64_id (by omega) (by omega)
  have t1 := mt_some (k := k + 1) (by omega) (by omega)
  rw [ek, laws_heldPutS_l2_eq, sif_t (by omega), idx_some hx]
  simp only [sbind_some, mkd_PutS, bne_self_eq_false, beq_self_eq_true, seq_self, Bool.not_true, sif_false, e1, e2, ei, t1]
theorem markDisk_held (x : List ByteArray × List (Int × ByteArray) × Int × Bool) (k : Int) (h0 : 0 ≤ k) (h1 : k ≤ 1000000) (hb : bulk_Disk x ≤ 1048576) : ∃ (m : Int) (y0 : List ByteArray) (y1 : List (Int × ByteArray)), laws_markDisk_vv x.2.2.1 x.2.2.2 k x.1 x.2.1 = some (m, y0, y1) ∧ laws_heldDisk y0 y1 x.2.2.1 x.2.2.2 k = some m ∧ 0 ≤ m := by
  unfold bulk_Disk at hb
  have l0 : x.1.length ≤ 1048576 := Nat.le_trans (bulk_len ByteArray.size x.1) (by omega)
  have c0 := cntL_le (cnt := fun _ => 1) (c := 1) (l := x.1) (fun _ _ => Nat.le_refl _)
  have l1 : x.2.1.length ≤ 1048576 := Nat.le_trans (bulk_len bulk_Put x.2.1) (by omega)
  have c1 := cntL_le (cnt := fun _ => 2) (c := 2) (l := x.2.1) (fun _ _ => Nat.le_refl _)
  refine ⟨_, _, _, by rw [laws_markDisk_vv_eq, markStringS_some x.1 (k) (by omega) (by omega) (by omega), sbind_some, markPutS_some x.2.1 (k + ((cntL (fun _ => 1) x.1 : Nat) : Int)) (by omega) (by omega) (by omega), sbind_some], ?_, ?_⟩
  · rw [laws_heldDisk_eq, heldStringS_some x.1 (k) (by omega) (by omega) (by omega), sbind_some, sif_f (by omega), heldPutS_some x.2.1 (k + ((cntL (fun _ => 1) x.1 : Nat) : Int)) (by omega) (by omega) (by omega), sbind_some, sif_f (by omega)]
  · omega
/-! within -/
theorem spec_l00In_some (n lo hi : Int) : spec_l00In n lo hi = some (inr n lo hi) := by rw [spec_l00In_eq, inr_sif]
theorem impl_within_some (n lo hi : Int) : impl_within n lo hi = some (inr n lo hi) := by rw [impl_within_eq, inr_sif]
/-! diskOk -/
def putOk (n : Int) (p : Int × ByteArray) : Bool := inr p.1 0 (n - 1) && ((p.2.size : Int) == 64)
def diskOk (B : List ByteArray) (P : List (Int × ByteArray)) (f : Int) : Bool :=
  inr B.length 16 256 && !decide ((P.length : Int) > 600) && inr f (-1) 100000 && B.all (fun b => (b.size : Int) == 64) && P.all (putOk B.length)
theorem spec_l09Ok_some (B : List ByteArray) (P : List (Int × ByteArray)) (f : Int) (o : Bool) : spec_l09Ok B P f o = some (diskOk B P f) := by
  unfold diskOk
  rw [spec_l09Ok_eq, spec_l00In_some, sbind_some]
  cases h1 : inr (B.length : Int) 16 256 with
  | false => rfl
  | true =>
    have hB := inr_iff.1 h1
    rw [Bool.not_true, sif_false]
    by_cases h2 : (P.length : Int) > 600
    · rw [sif_t h2, decide_eq_true h2]; rfl
    · rw [sif_f h2, spec_l00In_some, sbind_some, decide_eq_false h2]
      cases h3 : inr f (-1) 100000 with
      | false => rfl
      | true =>
        rw [Bool.not_true, sif_false]
        have k1 := all_loop B (fun b => (b.size : Int) == 64) (fun i => spec_l09Ok_l5 (B.length : Int) (i : Int) B P f o) false (fun i x hx hi => by
          rw [spec_l09Ok_l5_eq, sif_t (by omega), idx_some hx, sbind_some, wi64_add1 (by omega)]
          show sif (!((x.size : Int) == 64)) _ _ = _
          rw [sif_not])
        have k2 := all_loop P (putOk B.length) (fun i => spec_l09Ok_l10 (B.length : Int) (i : Int) B P f o) false (fun i x hx hi => by
          rw [spec_l09Ok_l10_eq, sif_t (by omega), idx_some hx, sbind_some, wi64_id (n := (B.length : Int) - 1) (by omega) (by omega), spec_l00In_some, sbind_some, sif_not, sbind_some, wi64_add1 (by omega)]
          unfold putOk
          show sif _ (sif (!((x.2.size : Int) == 64)) _ _) _ = _
          rw [sif_not]
          cases inr x.1 0 ((B.length : Int) - 1) <;> rfl)
        have e : spec_l09Ok_l5 (B.length : Int) (B.length : Int) B P f o = spec_l09Ok_l10 (B.length : Int) 0 B P f o := by rw [spec_l09Ok_l5_eq, sif_f (by omega)]
        have e2 : spec_l09Ok_l10 (B.length : Int) (P.length : Int) B P f o = some true := by rw [spec_l09Ok_l10_eq, sif_f (by omega)]
        refine k1.trans ?_
        rw [e]
        refine (congrArg (fun z => sif _ z _) k2).trans ?_
        rw [e2]
        cases B.all (fun b => (b.size : Int) == 64) <;> cases P.all (putOk B.length) <;> rfl
/-! implDisk -/
theorem impl_isBlock_some (b : ByteArray) : impl_isBlock b = some ((b.size : Int) == 64) := by rw [impl_isBlock_eq]
theorem impl_ValidDisk_1_some (b : ByteArray) : impl_ValidDisk_1 b = some (!((b.size : Int) == 64)) := by rw [impl_ValidDisk_1_eq, impl_isBlock_some, sbind_some]
theorem impl_isIndex_some (i n : Int) (h0 : 0 ≤ n) (h1 : n ≤ 1000000000000) : impl_isIndex i n = some (inr i 0 (n - 1)) := by
  rw [impl_isIndex_eq, wi64_id (by omega) (by omega), impl_within_some, sbind_some]
theorem impl_ValidDisk_2_some (p : Int × ByteArray) (B : List ByteArray) (P : List (Int × ByteArray)) (f : Int) (o : Bool) (h : B.length ≤ 1000000000000) : impl_ValidDisk_2 p.1 p.2 B P f o = some (!putOk B.length p) := by
  rw [impl_ValidDisk_2_eq, impl_isIndex_some _ _ (by omega) (by omega), sbind_some, impl_isBlock_some, sbind_some]
  unfold putOk
  cases inr p.1 0 ((B.length : Int) - 1) <;> rfl
theorem impl_ValidDisk_some (B : List ByteArray) (P : List (Int × ByteArray)) (f : Int) (o : Bool) : impl_ValidDisk B P f o = some (diskOk B P f) := by
  unfold diskOk
  rw [impl_ValidDisk_eq, impl_within_some, sbind_some]
  cases h1 : inr (B.length : Int) 16 256 with
  | false => rfl
  | true =>
    have hB := inr_iff.1 h1
    rw [Bool.not_true, sif_false]
    by_cases h2 : (P.length : Int) > 600
    · rw [sif_t h2, decide_eq_true h2]; rfl
    · rw [sif_f h2, impl_within_some, sbind_some, decide_eq_false h2]
      cases h3 : inr f (-1) 100000 with
      | false => rfl
      | true =>
        rw [Bool.not_true, sif_false]
        have k1 : slices_ContainsFunc_sstring_string_d_ValidDisk_1 B = some (B.any fun b => !((b.size : Int) == 64)) := by
          rw [slices_ContainsFunc_sstring_string_d_ValidDisk_1_eq, slices_IndexFunc_sstring_string_d_ValidDisk_1_eq]
          refine find_any (find_loop B _ (fun i => slices_IndexFunc_sstring_string_d_ValidDisk_1_l2 B (B.length : Int) i) (by rw [slices_IndexFunc_sstring_string_d_ValidDisk_1_l2_eq, sif_f (by omega)]) (fun i x hx hi => ?_))
          rw [slices_IndexFunc_sstring_string_d_ValidDisk_1_l2_eq, sif_t (by omega), idx_some hx, sbind_some, impl_ValidDisk_1_some, sbind_some, wi64_add1 (by omega)]
        have k2 : slices_ContainsFunc_simpl_Put_impl_Put_d_ValidDisk_2 P B P f o = some (P.any fun p => !putOk B.length p) := by
          rw [slices_ContainsFunc_simpl_Put_impl_Put_d_ValidDisk_2_eq, slices_IndexFunc_simpl_Put_impl_Put_d_ValidDisk_2_eq]
          refine find_any (find_loop P _ (fun i => slices_IndexFunc_simpl_Put_impl_Put_d_ValidDisk_2_l2 P (P.length : Int) i B P f o) (by rw [slices_IndexFunc_simpl_Put_impl_Put_d_ValidDisk_2_l2_eq, sif_f (by omega)]) (fun i x hx hi => ?_))
          rw [slices_IndexFunc_simpl_Put_impl_Put_d_ValidDisk_2_l2_eq, sif_t (by omega), idx_some hx, sbind_some, impl_ValidDisk_2_some _ _ _ _ _ (by omega), sbind_some, wi64_add1 (by omega)]
        rw [k1, sbind_some, any_not_all B (fun b => (b.size : Int) == 64) _ (fun _ _ => rfl), k2, any_not_all P (putOk B.length) _ (fun _ _ => rfl), sbind_some]
        cases B.all (fun b => (b.size : Int) == 64) <;> cases P.all (putOk B.length) <;> rfl
/-! diskClone -/
theorem spec_l09Own_some (B : List ByteArray) (P : List (Int × ByteArray)) (f : Int) (o : Bool) (h : B.length ≤ 1048576) (h' : P.length ≤ 1048576) : spec_l09Own B P f o = some (f, o, B, P) := by
  rw [spec_l09Own_eq, sif_pos (room_ok (by omega)), sif_pos (room_ok (by omega))]
theorem clone_s (s : List ByteArray) (h : s.length ≤ 1048576) : slices_Clone_sstring_string s = some s := by
  rw [slices_Clone_sstring_string_eq, sif_pos (room_ok (by omega))]
  cases s with
  | nil => simp
  | cons a l => rfl
theorem clone_p (s : List (Int × ByteArray)) (h : s.length ≤ 1048576) : slices_Clone_simpl_Put_impl_Put s = some s := by
  rw [slices_Clone_simpl_Put_impl_Put_eq, sif_pos (room_ok (by omega))]
  cases s with
  | nil => simp
  | cons a l => rfl
theorem impl_Disk_clone_some (B : List ByteArray) (P : List (Int × ByteArray)) (f : Int) (o : Bool) (h : B.length ≤ 1048576) (h' : P.length ≤ 1048576) : impl_Disk_clone B P f o = some (f, o, B, P) := by
  rw [impl_Disk_clone_eq, clone_s B h, sbind_some, clone_p P h', sbind_some]
/-! diskLaw -/
theorem sm_of (B : List ByteArray) (P : List (Int × ByteArray)) (f : Int) (o : Bool) (p1 : B.length * 16 ≤ 140737488351232) (p2 : ∀ e_ ∈ B, e_.size ≤ 140737488351232) (p3 : P.length * 24 ≤ 140737488351232) (p4 : ∀ e_ ∈ P, ((Lit.int .i64 e_.1).wf = true) ∧ (e_.2.size ≤ 140737488351232)) : sm_Disk (B, P, f, o) :=
  ⟨⟨by dsimp only; omega, fun x hx => by have := p2 x hx; omega⟩, ⟨by dsimp only; omega, fun x hx => by have := (p4 x hx).2; unfold sm_Put; omega⟩⟩
theorem disk_len {B : List ByteArray} {P : List (Int × ByteArray)} {f : Int} {o : Bool} (hb : bulk_Disk (B, P, f, o) ≤ 1048576) : B.length ≤ 1048576 ∧ P.length ≤ 1048576 :=
  ⟨Nat.le_trans (bulk_len ByteArray.size B) (Nat.le_trans (Nat.le_add_right _ _) hb), Nat.le_trans (bulk_len bulk_Put P) (Nat.le_trans (Nat.le_add_left _ _) hb)⟩
theorem disk_empty (f : Int) (o : Bool) : bulk_Disk ([], [], f, o) ≤ 1048576 := by simp [bulk_Disk, bulkL]
theorem sum_le {α : Type} (b : α → Nat) (c : Nat) : ∀ (l : List α), (∀ x ∈ l, b x ≤ c) → (l.map b).sum ≤ l.length * c
  | [], _ => by simp
  | x :: l, h => by
    have := sum_le b c l (fun y hy => h y (by simp [hy]))
    have := h x (by simp)
    rw [List.map_cons, List.sum_cons, List.length_cons, Nat.succ_mul]; omega
theorem disk_ok {B : List ByteArray} {P : List (Int × ByteArray)} {f : Int} (h : diskOk B P f = true) : 16 ≤ B.length ∧ B.length ≤ 256 ∧ P.length ≤ 600 ∧ -1 ≤ f ∧ f ≤ 100000 ∧ (∀ b ∈ B, b.size = 64) ∧ ∀ p ∈ P, 0 ≤ p.1 ∧ p.1 < B.length ∧ p.2.size = 64 := by
  unfold diskOk at h
  simp only [Bool.and_eq_true, inr_iff, List.all_eq_true, Bool.not_eq_true', decide_eq_false_iff_not, beq_iff_eq, putOk] at h
  obtain ⟨⟨⟨⟨h1, h2⟩, h3⟩, h4⟩, h5⟩ := h
  exact ⟨by omega, by omega, by omega, by omega, by omega, fun b hb => by have := h4 b hb; omega, fun p hp => by have := h5 p hp; exact ⟨by omega, by omega, by omega⟩⟩
theorem disk_bulk {B : List ByteArray} {P : List (Int × ByteArray)} {f : Int} {o : Bool} (h1 : B.length ≤ 256) (h2 : P.length ≤ 601) (h3 : ∀ b ∈ B, b.size = 64) (h4 : ∀ p ∈ P, p.2.size = 64) : bulk_Disk (B, P, f, o) ≤ 1048576 := by
  have a := sum_le ByteArray.size 64 B (fun b hb => by have := h3 b hb; omega)
  have b := sum_le bulk_Put 64 P (fun p hp => by have := h4 p hp; unfold bulk_Put; omega)
  show bulkL ByteArray.size B + bulkL bulk_Put P ≤ _
  unfold bulkL
  omega
def powM (f : Int) (o : Bool) : Bool × Int × Bool := if (o || f == 0) = true then (false, f, true) else (true, (if f > 0 then f - 1 else f), o)
theorem spec_power (f : Int) (o : Bool) (B : List ByteArray) (P : List (Int × ByteArray)) (h1 : -1 ≤ f) (h2 : f ≤ 100000) : spec_l09Power_wvv f o B P = some ((powM f o).1, (powM f o).2.1, (powM f o).2.2, B, P) := by
  rw [spec_l09Power_wvv_eq, wi64_id (by omega) (by omega)]
  unfold powM
  cases o with
  | true => rfl
  | false =>
    rw [sif_false]
    cases hf : f == 0 with
    | true => rfl
    | false =>
      rw [sif_false]
      by_cases c : f > 0
      · rw [sif_t c, Bool.false_or, if_neg (by decide), if_pos c]
      · rw [sif_f c, Bool.false_or, if_neg (by decide), if_neg c]
theorem impl_power (f : Int) (o : Bool) (B : List ByteArray) (P : List (Int × ByteArray)) (h1 : -1 ≤ f) (h2 : f ≤ 100000) : impl_Disk_power_wvv f o B P = some (if (powM f o).1 = true then 0 else 13, (powM f o).2.1, (powM f o).2.2, B, P) := by
  rw [impl_Disk_power_wvv_eq, wi64_id (by omega) (by omega)]
  unfold powM
  cases o with
  | true => rfl
  | false =>
    rw [sif_false]
    cases hf : f == 0 with
    | true => rfl
    | false =>
      rw [sif_false]
      by_cases c : f > 0
      · rw [sif_t c, Bool.false_or]; simp [c]
      · rw [sif_f c, Bool.false_or]; simp [c]
/-! FnExactWriteBlock -/
def writeM (B : List ByteArray) (P : List (Int × ByteArray)) (f : Int) (o : Bool) (k : Int) (data : ByteArray) : Int × Bool × Int × List ByteArray × List (Int × ByteArray) :=
  if diskOk B P f = true then
    if data.size = 64 then
      if inr k 0 ((B.length : Int) - 1) = true then
        if (powM f o).1 = true then
          if P.length ≥ 600 then (0, false, 5, [], []) else ((powM f o).2.1, (powM f o).2.2, 0, B, P ++ [(k, data)])
        else ((powM f o).2.1, (powM f o).2.2, 13, B, P)
      else (0, false, 2, [], [])
    else (0, false, 1, [], [])
  else (0, false, 1, [], [])
theorem pow_off {f : Int} {o : Bool} : (powM f o).1 = !(o || f == 0) := by
  unfold powM
  split
  · next h => rw [h]; rfl
  · next h => cases hq : (o || f == 0) with
    | true => exact absurd hq h
    | false => rfl
theorem pow_no {f : Int} {o : Bool} (h : (powM f o).1 = false) : (powM f o).2 = (f, true) := by
  rw [pow_off] at h
  unfold powM
  cases hq : (o || f == 0) with
  | true => rw [if_pos rfl]
  | false => rw [hq] at h; cases h
theorem spec_write (k : Int) (data : ByteArray) (f : Int) (o : Bool) (B : List ByteArray) (P : List (Int × ByteArray)) (h1 : -1 ≤ f) (h2 : f ≤ 100000) (h3 : P.length ≤ 600) : spec_l09Write_wvv k data f o B P = some (if (powM f o).1 = true then (if P.length ≥ 600 then (5, f, o, B, P) else (0, (powM f o).2.1, (powM f o).2.2, B, P ++ [(k, data)])) else (13, f, true, B, P)) := by
  rw [spec_l09Write_wvv_eq, spec_power f o B P h1 h2, sbind_some]
  have hp := pow_off (f := f) (o := o)
  cases o with
  | true => rw [hp]; rfl
  | false =>
    rw [sif_false]
    cases hf : f == 0 with
    | true => rw [hp, hf]; rfl
    | false =>
      rw [sif_false, hp, hf, if_pos (by rfl)]
      by_cases c : P.length ≥ 600
      · rw [sif_t (by omega), if_pos c]
      · rw [sif_f (by omega), if_neg c, sif_pos (room_ok (show (P.length + 1) * 24 ≤ _ by omega))]
theorem spec_WriteBlock_some (B : List ByteArray) (P : List (Int × ByteArray)) (f : Int) (o : Bool) (k : Int) (data : ByteArray) (h : B.length ≤ 1048576) (h' : P.length ≤ 1048576) : spec_WriteBlock B P f o k data = some (writeM B P f o k data) := by
  unfold writeM
  rw [spec_WriteBlock_eq, spec_l09Ok_some, sbind_some, spec_l09Own_some B P f o h h', sbind_some, wi64_id (by omega) (by omega), spec_l00In_some, sbind_some]
  cases hd : diskOk B P f with
  | false => rfl
  | true =>
    obtain ⟨_, _, k3, k4, k5, _, k7⟩ := disk_ok hd
    rw [Bool.not_true, sif_false, if_pos rfl, spec_write k data f o B P k4 k5 k3, sbind_some]
    by_cases c : data.size = 64
    · rw [sif_neg (by simp [c]), if_pos c]
      cases hi : inr k 0 ((B.length : Int) - 1) with
      | false => rfl
      | true =>
        rw [Bool.not_true, sif_false, if_pos rfl]
        cases hp : (powM f o).1 with
        | false => rw [if_neg (by decide), if_neg (by decide), pow_no hp, sif_neg (by rfl)]
        | true =>
          rw [if_pos rfl, if_pos rfl]
          by_cases c2 : P.length ≥ 600
          · rw [if_pos c2, if_pos c2]; rfl
          · rw [if_neg c2, if_neg c2]; rfl
    · rw [sif_pos (by simp; omega), if_neg c]
theorem impl_WriteBlock_some (B : List ByteArray) (P : List (Int × ByteArray)) (f : Int) (o : Bool) (k : Int) (data : ByteArray) (h : B.length ≤ 1048576) (h' : P.length ≤ 1048576) : impl_WriteBlock B P f o k data = some (writeM B P f o k data) := by
  unfold writeM
  rw [impl_WriteBlock_eq, impl_ValidDisk_some, sbind_some, impl_Disk_clone_some B P f o h h', sbind_some, impl_isBlock_some, sbind_some, impl_isIndex_some _ _ (by omega) (by omega), sbind_some]
  cases hd : diskOk B P f with
  | false => rfl
  | true =>
    obtain ⟨_, _, k3, k4, k5, _, k7⟩ := disk_ok hd
    rw [Bool.not_true, sif_false, if_pos rfl, impl_Disk_write_wvv_eq, impl_power f o B P k4 k5, sbind_some]
    by_cases c : data.size = 64
    · rw [sif_neg (by simp [c]), if_pos c]
      cases hi : inr k 0 ((B.length : Int) - 1) with
      | false => rfl
      | true =>
        rw [Bool.not_true, sif_false, if_pos rfl]
        cases hp : (powM f o).1 with
        | false => rw [if_neg (by decide), if_neg (by decide), sif_pos (by rfl), sbind_some, impl_powered_vv_eq, sif_pos (by rfl), sif_neg (by rfl), sbind_some]
        | true =>
          rw [if_pos rfl, if_pos rfl, sif_neg (by rfl)]
          by_cases c2 : P.length ≥ 600
          · rw [if_pos c2, sif_t (by dsimp only; omega), sbind_some, impl_powered_vv_eq, sif_pos (by rfl), sif_pos (by rfl), sbind_some]
          · rw [if_neg c2, sif_f (by dsimp only; omega), sif_pos (room_ok (show (P.length + 1) * 24 ≤ _ by omega)), sbind_some, impl_powered_vv_eq, sif_neg (by rfl), sbind_some]
    · rw [sif_pos (by simp; omega), if_neg c]
theorem pure_FnExactWriteBlock (aD_Blocks : List ByteArray) (aD_Pending : List (Int × ByteArray)) (aD_Fuse : Int) (aD_Off : Bool) (aK : Int) (aData : ByteArray) (O0 : (aD_Blocks.length ≤ maxLen ∧ aD_Blocks.length * 16 ≤ 140737488351232 ∧ ∀ e_ ∈ aD_Blocks, e_.size ≤ 140737488351232) ∧ (aD_Pending.length ≤ maxLen ∧ aD_Pending.length * 24 ≤ 140737488351232 ∧ ∀ e_ ∈ aD_Pending, ((Lit.int .i64 e_.1).wf = true) ∧ (e_.2.size ≤ 140737488351232)) ∧ ((Lit.int .i64 aD_Fuse).wf = true) ∧ (True)) (O1 : (Lit.int .i64 aK).wf = true) (O2 : aData.size ≤ 140737488351232) : laws_FnExactWriteBlock aD_Blocks aD_Pending aD_Fuse aD_Off aK aData = some true := by
  obtain ⟨⟨_, p1, p2⟩, ⟨_, p3, p4⟩, _⟩ := O0
  have e0 : laws_szDisk aD_Blocks aD_Pending aD_Fuse aD_Off 1048576 = _ := szDisk_some (aD_Blocks, aD_Pending, aD_Fuse, aD_Off) 1048576 (sm_of _ _ _ _ p1 p2 p3 p4) (by omega) (by omega)
  rw [laws_FnExactWriteBlock_eq]
  by_cases cd : (aData.size : Int) > 1048576
  · rw [sif_t cd]
  rw [sif_f cd, e0, sbind_some]
  by_cases c : ((bulk_Disk (aD_Blocks, aD_Pending, aD_Fuse, aD_Off) : Nat) : Int) ≤ 1048576
  · rw [if_pos c, sif_f (by omega)]
    have hb : bulk_Disk (aD_Blocks, aD_Pending, aD_Fuse, aD_Off) ≤ 1048576 := by omega
    have t : laws_toDisk aD_Blocks aD_Pending aD_Fuse aD_Off = some (aD_Fuse, aD_Off, aD_Blocks, aD_Pending) := toDisk_some (aD_Blocks, aD_Pending, aD_Fuse, aD_Off) hb
    obtain ⟨lb, lp⟩ := disk_len hb
    have hbR : bulk_Disk ((writeM aD_Blocks aD_Pending aD_Fuse aD_Off aK aData).2.2.2.1, (writeM aD_Blocks aD_Pending aD_Fuse aD_Off aK aData).2.2.2.2, (writeM aD_Blocks aD_Pending aD_Fuse aD_Off aK aData).1, (writeM aD_Blocks aD_Pending aD_Fuse aD_Off aK aData).2.1) ≤ 1048576 := by
      unfold writeM
      split
      · next hd =>
        obtain ⟨_, k2, k3, k4, k5, k6, k7⟩ := disk_ok hd
        split
        · next c64 =>
          split
          · split
            · split
              · exact disk_empty _ _
              · exact disk_bulk k2 (by simp; omega) k6 (fun p hp => by
                  rcases List.mem_append.1 hp with hp | hp
                  · exact (k7 p hp).2.2
                  · simp at hp; rw [hp]; exact c64)
            · exact hb
          · exact disk_empty _ _
        · exact disk_empty _ _
      · exact disk_empty _ _
    simp only [t, sbind_some, spec_WriteBlock_some aD_Blocks aD_Pending aD_Fuse aD_Off aK aData lb lp, impl_WriteBlock_some aD_Blocks aD_Pending aD_Fuse aD_Off aK aData lb lp]
    generalize writeM aD_Blocks aD_Pending aD_Fuse aD_Off aK aData = R at hbR
    have q : laws_eqDisk R.2.2.2.1 R.2.2.2.2 R.1 R.2.1 R.2.2.2.1 R.2.2.2.2 R.1 R.2.1 = some true := eqDisk_refl (R.2.2.2.1, R.2.2.2.2, R.1, R.2.1) hbR
    have q0 : laws_eqDisk aD_Blocks aD_Pending aD_Fuse aD_Off aD_Blocks aD_Pending aD_Fuse aD_Off = some true := eqDisk_refl (aD_Blocks, aD_Pending, aD_Fuse, aD_Off) hb
    obtain ⟨m0, y0, z0, a1, a2, a3⟩ := markDisk_held (aD_Blocks, aD_Pending, aD_Fuse, aD_Off) 1 (by omega) (by omega) hb
    obtain ⟨m1, y1, z1, b1, b2, b3⟩ := markDisk_held (R.2.2.2.1, R.2.2.2.2, R.1, R.2.1) 1 (by omega) (by omega) hbR
    dsimp only at a1 b1 b2
    simp only [q, q0, sbind_some, Bool.not_true, sif_false, bne_self_eq_false, a1, b1, b2]
    rw [sif_f (by omega), sif_f (by omega), sif_f (by omega)]
  · rw [if_neg c, sif_t (by omega)]
end Go.Ve.X
