/- What 'FnExactDecodeNode' comes to, in plain words over numbers, texts and lists: each function that it reaches answers what is told; put together, the law answers true. No condition but the sizes that come in. -/
import Derived.Test.YtkfcmjdooldonaaEqFnExactDecodeNode
namespace Go.Ve.X
open Go.Ve
set_option linter.all false
set_option maxRecDepth 100000
theorem eqChunk_refl (x : Int × Int × Int × Int) : laws_eqChunk x.1 x.2.1 x.2.2.1 x.2.2.2 x.1 x.2.1 x.2.2.1 x.2.2.2 = some true := by
  rw [laws_eqChunk_eq]
  simp only [seq_self, bne_self_eq_false, beq_self_eq_true, Bool.not_true, Bool.not_false, sif_false, sif_true]
theorem eqChunkS_refl (a : List (Int × Int × Int × Int)) (hb : a.length ≤ 1048576) : laws_eqChunkS a a = some true := by
  have hl : a.length ≤ 1048576 := hb
  have key := loop_all a (fun i => laws_eqChunkS_l4 a a (i : Int)) (some true) (by rw [laws_eqChunkS_l4_eq, sif_f (by omega)]) (fun i x hx hi => by
    rw [laws_eqChunkS_l4_eq, sif_t (by omega), idx_some hx, sbind_some, sbind_some, eqChunk_refl x, sbind_some, Bool.not_true, sif_false, wi64_add1 (by omega)])
  rw [laws_eqChunkS_eq, bne_self_eq_false, sif_false]
  exact key
theorem eqInt64S_refl (a : List Int) (hb : a.length ≤ 1048576) : laws_eqInt64S a a = some true := by
  have hl : a.length ≤ 1048576 := hb
  have key := loop_all a (fun i => laws_eqInt64S_l4 a a (i : Int)) (some true) (by rw [laws_eqInt64S_l4_eq, sif_f (by omega)]) (fun i x hx hi => by
    rw [laws_eqInt64S_l4_eq, sif_t (by omega), idx_some hx, sbind_some, sbind_some, bne_self_eq_false, sif_false, wi64_add1 (by omega)])
  rw [laws_eqInt64S_eq, bne_self_eq_false, sif_false]
  exact key
def bulk_Node (x : Bool × List (Int × Int × Int × Int) × List Int × List Int) : Nat := x.2.1.length + x.2.2.1.length + x.2.2.2.length
theorem eqNode_refl (x : Bool × List (Int × Int × Int × Int) × List Int × List Int) (hb : bulk_Node x ≤ 1048576) : laws_eqNode x.1 x.2.1 x.2.2.1 x.2.2.2 x.1 x.2.1 x.2.2.1 x.2.2.2 = some true := by
  unfold bulk_Node at hb
  rw [laws_eqNode_eq, eqChunkS_refl x.2.1 (by omega), sbind_some, eqInt64S_refl x.2.2.1 (by omega), sbind_some, eqInt64S_refl x.2.2.2 (by omega), sbind_some]
  simp only [seq_self, bne_self_eq_false, beq_self_eq_true, Bool.not_true, Bool.not_false, sif_false, sif_true]
noncomputable def mkd_ChunkS (k : Int) (x : Int × Int × Int × Int) : Int × Int × Int × Int := (k, k + 1, k + 1 + 1, k + 1 + 1 + 1)
theorem markChunkS_some (a : List (Int × Int × Int × Int)) (k : Int) (h0 : 0 ≤ k) (hB : k + cntL (fun _ => 4) a ≤ 1000000000000) (hl : a.length ≤ 1000000000000) : laws_markChunkS_v k a = some (k + cntL (fun _ => 4) a, mkdL mkd_ChunkS (fun _ => 4) k a) := by
  rw [laws_markChunkS_v_eq]
  refine mark_loop a mkd_ChunkS (fun _ => 4) 1000000000000 (fun k i a => laws_markChunkS_v_l2 k i a) (fun k a => by rw [laws_markChunkS_v_l2_eq, sif_f (by omega)]) (P := fun _ => True) (fun k i l x hx hi ha _ h0 hk => ?_) (fun _ _ => trivial) k h0 hB
  have hk' : k + 4 ≤ 1000000000000 := hk
  rw [← ha] at hl
  have ek : k + ((4 : Nat) : Int) = k + 1 + 1 + 1 + 1 := by omega
  have ei := wi64_add1 (n := i) (by omega)
  have lt : lt3 0 (i : Int) (l.length : Int) = true := lt3_ok (by omega) (by omega)
  have e1 : wi64 (k + 1) = k + 1 := wi64_id (by omega) (by omega)
  have e2 : wi64 (k + 1 + 1) = k + 1 + 1 := wi64_id (by omega) (by omega)
  have e3 : wi64 (k + 1 + 1 + 1) = k + 1 + 1 + 1 := wi64_id (by omega) (by omega)
  have e4 : wi64 (k + 1 + 1 + 1 + 1) = k + 1 + 1 + 1 + 1 := wi64_id (by omega) (by omega)
  rw [ek, laws_markChunkS_v_l2_eq, sif_t (by omega)]
  simp only [Int.toNat_natCast, List.length_set, lt, sif_true, hx, sbind_some, List.getElem?_set_self hi, List.set_set, e1, e2, e3, e4, ei]
  rfl
theorem heldChunkS_some (a : List (Int × Int × Int × Int)) (k : Int) (h0 : 0 ≤ k) (hB : k + cntL (fun _ => 4) a ≤ 1000000000000) (hl : a.length ≤ 1000000000000) : laws_heldChunkS (mkdL mkd_ChunkS (fun _ => 4) k a) k = some (k + cntL (fun _ => 4) a) := by
  have hlen := mkdL_len (mkd := mkd_ChunkS) (cnt := fun _ => 4) a k
  rw [laws_heldChunkS_eq]
  refine held_loop mkd_ChunkS (fun _ => 4) 1000000000000 _ (fun k' i => laws_heldChunkS_l2 (mkdL mkd_ChunkS (fun _ => 4) k a) k' i) (fun k' => by rw [laws_heldChunkS_l2_eq, sif_f (by omega)]) (P := fun _ => True) (fun k i x hx hi _ h0 hk => ?_) a (fun _ _ => trivial) k h0 hB rfl
  have hk' : k + 4 ≤ 1000000000000 := hk
  have ek : k + ((4 : Nat) : Int) = k + 1 + 1 + 1 + 1 := by omega
  have ei := wi64_add1 (n := i) (by omega)
  have e1 : wi64 (k + 1) = k + 1 := wi64_id (by omega) (by omega)
  have e2 : wi64 (k + 1 + 1) = k + 1 + 1 := wi64_id (by omega) (by omega)
  have e3 : wi64 (k + 1 + 1 + 1) = k + 1 + 1 + 1 := wi64_id (by omega) (by omega)
  have e4 : wi64 (k + 1 + 1 + 1 + 1) = k + 1 + 1 + 1 + 1 := wi64_id (by omega) (by omega)
  rw [ek, laws_heldChunkS_l2_eq, sif_t (by omega), idx_some hx]
  simp only [sbind_some, mkd_ChunkS, bne_self_eq_false, beq_self_eq_true, seq_self, Bool.not_true, sif_false, e1, e2, e3, e4, ei]
noncomputable def mkd_Int64S (k : Int) (x : Int) : Int := k
theorem markInt64S_some (a : List Int) (k : Int) (h0 : 0 ≤ k) (hB : k + cntL (fun _ => 1) a ≤ 1000000000000) (hl : a.length ≤ 1000000000000) : laws_markInt64S_v k a = some (k + cntL (fun _ => 1) a, mkdL mkd_Int64S (fun _ => 1) k a) := by
  rw [laws_markInt64S_v_eq]
  refine mark_loop a mkd_Int64S (fun _ => 1) 1000000000000 (fun k i a => laws_markInt64S_v_l2 k i a) (fun k a => by rw [laws_markInt64S_v_l2_eq, sif_f (by omega)]) (P := fun _ => True) (fun k i l x hx hi ha _ h0 hk => ?_) (fun _ _ => trivial) k h0 hB
  have hk' : k + 1 ≤ 1000000000000 := hk
  rw [← ha] at hl
  have ek : k + ((1 : Nat) : Int) = k + 1 := by omega
  have ei := wi64_add1 (n := i) (by omega)
  have lt : lt3 0 (i : Int) (l.length : Int) = true := lt3_ok (by omega) (by omega)
  have e1 : wi64 (k + 1) = k + 1 := wi64_id (by omega) (by omega)
  rw [ek, laws_markInt64S_v_l2_eq, sif_t (by omega)]
  simp only [Int.toNat_natCast, List.length_set, lt, sif_true, hx, sbind_some, List.getElem?_set_self hi, List.set_set, e1, ei]
  rfl
theorem heldInt64S_some (a : List Int) (k : Int) (h0 : 0 ≤ k) (hB : k + cntL (fun _ => 1) a ≤ 1000000000000) (hl : a.length ≤ 1000000000000) : laws_heldInt64S (mkdL mkd_Int64S (fun _ => 1) k a) k = some (k + cntL (fun _ => 1) a) := by
  have hlen := mkdL_len (mkd := mkd_Int64S) (cnt := fun _ => 1) a k
  rw [laws_heldInt64S_eq]
  refine held_loop mkd_Int64S (fun _ => 1) 1000000000000 _ (fun k' i => laws_heldInt64S_l2 (mkdL mkd_Int64S (fun _ => 1) k a) k' i) (fun k' => by rw [laws_heldInt64S_l2_eq, sif_f (by omega)]) (P := fun _ => True) (fun k i x hx hi _ h0 hk => ?_) a (fun _ _ => trivial) k h0 hB rfl
  have hk' : k + 1 ≤ 1000000000000 := hk
  have ek : k + ((1 : Nat) : Int) = k + 1 := by omega
  have ei := wi64_add1 (n := i) (by omega)
  have e1 : wi64 (k + 1) = k + 1 := wi64_id (by omega) (by omega)
  rw [ek, laws_heldInt64S_l2_eq, sif_t (by omega), idx_some hx]
  simp only [sbind_some, mkd_Int64S, bne_self_eq_false, beq_self_eq_true, seq_self, Bool.not_true, sif_false, e1, ei]
theorem markNode_held (x : Bool × List (Int × Int × Int × Int) × List Int × List Int) (k : Int) (h0 : 0 ≤ k) (h1 : k ≤ 1000000) (hb : bulk_Node x ≤ 1048576) : ∃ (m : Int) (y1 : List (Int × Int × Int × Int)) (y2 : List Int) (y3 : List Int), laws_markNode_vvv x.1 k x.2.1 x.2.2.1 x.2.2.2 = some (m, y1, y2, y3) ∧ laws_heldNode x.1 y1 y2 y3 k = some m ∧ 0 ≤ m := by
  unfold bulk_Node at hb
  have l1 : x.2.1.length ≤ 1048576 := by omega
  have c1 := cntL_le (cnt := fun _ => 4) (c := 4) (l := x.2.1) (fun _ _ => Nat.le_refl _)
  have l2 : x.2.2.1.length ≤ 1048576 := by omega
  have c2 := cntL_le (cnt := fun _ => 1) (c := 1) (l := x.2.2.1) (fun _ _ => Nat.le_refl _)
  have l3 : x.2.2.2.length ≤ 1048576 := by omega
  have c3 := cntL_le (cnt := fun _ => 1) (c := 1) (l := x.2.2.2) (fun _ _ => Nat.le_refl _)
  refine ⟨_, _, _, _, by rw [laws_markNode_vvv_eq, markChunkS_some x.2.1 (k) (by omega) (by omega) (by omega), sbind_some, markInt64S_some x.2.2.1 (k + ((cntL (fun _ => 4) x.2.1 : Nat) : Int)) (by omega) (by omega) (by omega), sbind_some, markInt64S_some x.2.2.2 (k + ((cntL (fun _ => 4) x.2.1 : Nat) : Int) + ((cntL (fun _ => 1) x.2.2.1 : Nat) : Int)) (by omega) (by omega) (by omega), sbind_some], ?_, ?_⟩
  · rw [laws_heldNode_eq, heldChunkS_some x.2.1 (k) (by omega) (by omega) (by omega), sbind_some, sif_f (by omega), heldInt64S_some x.2.2.1 (k + ((cntL (fun _ => 4) x.2.1 : Nat) : Int)) (by omega) (by omega) (by omega), sbind_some, sif_f (by omega), heldInt64S_some x.2.2.2 (k + ((cntL (fun _ => 4) x.2.1 : Nat) : Int) + ((cntL (fun _ => 1) x.2.2.1 : Nat) : Int)) (by omega) (by omega) (by omega), sbind_some, sif_f (by omega)]
  · omega
/-! bytesL -/
theorem bidx_ofB (s : ByteArray) (i : Int) : bidx s i = idx (Ve.ofB s) i := by
  unfold bidx idx
  split
  · unfold Ve.ofB
    rw [List.getElem?_map]
    congr 1
    rw [Array.getElem?_toList, getElem?_def, getElem?_def]
    rfl
  · rfl
def inB (l : List Int) : Prop := ∀ x ∈ l, 0 ≤ x ∧ x ≤ 255
theorem ofB_inB (s : ByteArray) : inB (Ve.ofB s) := by
  intro x hx
  unfold Ve.ofB at hx
  obtain ⟨b, _, rfl⟩ := List.mem_map.1 hx
  have := b.toNat_lt
  omega
theorem toB_ofB (s : ByteArray) : Ve.toB (Ve.ofB s) = s := by
  unfold Ve.toB Ve.ofB
  rw [List.map_map]
  have : ((fun n : Int => UInt8.ofNat n.toNat) ∘ fun b : UInt8 => (b.toNat : Int)) = id := by funext b; simp
  rw [this, List.map_id]
theorem ofB_toB {l : List Int} (h : inB l) : Ve.ofB (Ve.toB l) = l := by
  unfold Ve.toB Ve.ofB
  simp only [List.map_map]
  conv => rhs; rw [← List.map_id l]
  refine List.map_congr_left (fun x hx => ?_)
  have := h x hx
  simp only [Function.comp, id]
  rw [UInt8.toNat_ofNat']
  omega
theorem bits_and_u64 (a : Int) : 0 ≤ bits .and .u64 a 255 ∧ bits .and .u64 a 255 ≤ 255 := by
  have h : ∀ x : BitVec 64, (x &&& 255#64).toNat ≤ 255 := fun x => by rw [BitVec.toNat_and]; exact Nat.and_le_right
  have := h (BitVec.ofInt 64 a)
  have e : bits .and .u64 a 255 = wu64 (((BitVec.ofInt 64 a) &&& 255#64).toNat : Int) := rfl
  rw [e, wu64_id (by omega) (by omega)]
  omega
/-! leL -/
def leN : List Int → Int
  | [] => 0
  | b :: r => b + 256 * leN r
theorem leN_ge : ∀ {l : List Int}, inB l → 0 ≤ leN l
  | [], _ => by simp [leN]
  | b :: r, h => by
    have := leN_ge (l := r) (fun x hx => h x (by simp [hx])); have := h b (by simp); simp only [leN]; omega
theorem leN_lt : ∀ {l : List Int}, inB l → leN l < 256 ^ l.length
  | [], _ => by simp [leN]
  | b :: r, h => by
    have := leN_lt (l := r) (fun x hx => h x (by simp [hx])); have := h b (by simp)
    simp only [leN, List.length_cons, Int.pow_succ]; omega
theorem leN_append : ∀ (a b : List Int), leN (a ++ b) = leN a + 256 ^ a.length * leN b
  | [], b => by simp [leN]
  | x :: a, b => by
    simp only [List.cons_append, leN, leN_append a b, List.length_cons, Int.pow_succ]
    rw [Int.mul_add, Int.mul_comm (256 ^ a.length) 256, Int.mul_assoc]; omega
theorem inB_take {l : List Int} (h : inB l) (n : Nat) : inB (l.take n) := fun x hx => h x (List.mem_of_mem_take hx)
theorem inB_drop {l : List Int} (h : inB l) (n : Nat) : inB (l.drop n) := fun x hx => h x (List.mem_of_mem_drop hx)
theorem leN_drop {l : List Int} (h : inB l) : ∀ n, leN (l.drop n) ≤ leN l := by
  induction l with
  | nil => intro n; simp
  | cons b r ih =>
    intro n
    cases n with
    | zero => simp
    | succ n =>
      have h1 := ih (fun x hx => h x (by simp [hx])) n
      have h2 := leN_ge (l := r) (fun x hx => h x (by simp [hx]))
      have h3 := h b (by simp)
      simp only [List.drop_succ_cons, leN]; omega
def leB (n : Int) (k : Nat) : List Int := (List.range k).map (fun i => wu8 (Int.fdiv n (2 ^ (8 * i))))
theorem leB_len (n : Int) (k : Nat) : (leB n k).length = k := by simp [leB]
theorem leB_in (n : Int) (k : Nat) : inB (leB n k) := by
  intro x hx
  obtain ⟨i, _, rfl⟩ := List.mem_map.1 hx
  rw [wu8_def]; omega
theorem fdiv_shift (n : Int) (i : Nat) : Int.fdiv n (2 ^ (8 * (i + 1))) = Int.fdiv (Int.fdiv n 256) (2 ^ (8 * i)) := by
  rw [Int.fdiv_eq_ediv_of_nonneg _ (Int.pow_nonneg (by decide)), Int.fdiv_eq_ediv_of_nonneg _ (Int.pow_nonneg (by decide)), Int.fdiv_eq_ediv_of_nonneg _ (by decide)]
  rw [Int.ediv_ediv_of_nonneg (by decide)]
  congr 1
  rw [Nat.mul_add, Int.pow_add, Int.mul_comm]; rfl
theorem leB_succ (n : Int) (k : Nat) : leB n (k + 1) = wu8 n :: leB (Int.fdiv n 256) k := by
  unfold leB
  rw [List.range_succ_eq_map, List.map_cons, List.map_map]
  congr 1
  · simp [Int.fdiv_one]
  · refine List.map_congr_left (fun i _ => ?_)
    simp only [Function.comp]
    rw [Nat.succ_eq_add_one, fdiv_shift]
theorem leN_leB : ∀ (k : Nat) (n : Int), 0 ≤ n → n < 256 ^ k → leN (leB n k) = n
  | 0, n, h0, h1 => by simp at h1; simp [leB, leN]; omega
  | k + 1, n, h0, h1 => by
    rw [Int.pow_succ] at h1
    rw [leB_succ, leN, Int.fdiv_eq_ediv_of_nonneg _ (by decide), leN_leB k (n / 256) (by omega) (by omega), wu8_def]
    omega
theorem or_add {x b k : Nat} (h : x < 2 ^ k) : x ||| (b * 2 ^ k) = x + b * 2 ^ k := by
  have := Nat.shiftLeft_add_eq_or_of_lt h b
  rw [Nat.shiftLeft_eq] at this
  rw [Nat.or_comm, ← this, Nat.add_comm]
theorem bits_or_nat {x y : Nat} (hx : x < 18446744073709551616) (hy : y < 18446744073709551616) : bits .or .u64 (x : Int) (y : Int) = ((x ||| y : Nat) : Int) := by
  have e : bits .or .u64 (x : Int) (y : Int) = wu64 (((BitVec.ofInt 64 (x : Int)) ||| (BitVec.ofInt 64 (y : Int))).toNat : Int) := rfl
  have hxy : x ||| y < 2 ^ 64 := Nat.or_lt_two_pow hx hy
  rw [e, BitVec.toNat_or, BitVec.ofInt_natCast, BitVec.ofInt_natCast, BitVec.toNat_ofNat, BitVec.toNat_ofNat, Nat.mod_eq_of_lt hx, Nat.mod_eq_of_lt hy, wu64_id (by omega) (by omega)]
theorem or_step {n b : Int} {i : Nat} (hi : i ≤ 7) (h0 : 0 ≤ n) (h1 : n < 256 ^ i) (b0 : 0 ≤ b) (b1 : b ≤ 255) : bits .or .u64 n (wu64 ((wu64 b) * 2 ^ (min (wi64 (8 * (i : Int))).toNat 64))) = n + 256 ^ i * b := by
  rw [wi64_id (by omega) (by omega), wu64_id (n := b) (by omega) (by omega)]
  have hm : min (8 * (i : Int)).toNat 64 = 8 * i := by omega
  rw [hm]
  have hp : (256 : Int) ^ i = 2 ^ (8 * i) := by rw [Int.pow_mul]; rfl
  have hpn : ((2 ^ (8 * i) : Nat) : Int) = 2 ^ (8 * i) := by push_cast; rfl
  have hle : (2 : Nat) ^ (8 * i) ≤ 2 ^ 56 := Nat.pow_le_pow_right (by decide) (by omega)
  obtain ⟨bn, rfl⟩ : ∃ bn : Nat, b = bn := ⟨b.toNat, by omega⟩
  obtain ⟨nn, rfl⟩ : ∃ nn : Nat, n = nn := ⟨n.toNat, by omega⟩
  rw [hp, ← hpn] at h1
  have hmul : bn * 2 ^ (8 * i) ≤ 255 * 2 ^ 56 := Nat.mul_le_mul (by omega) hle
  rw [hp, ← hpn, ← Int.natCast_mul, wu64_id (by omega) (by omega), bits_or_nat (by omega) (by omega), or_add (by omega)]
  push_cast
  rw [Int.mul_comm]
theorem wu8_and (m : Int) : wu8 (bits .and .i64 m 255) = wu8 m := by
  have e : bits .and .i64 m 255 = wi64 (((BitVec.ofInt 64 m) &&& 255#64).toNat : Int) := rfl
  have h : ∀ x : BitVec 64, (x &&& 255#64).toNat = x.toNat % 256 := fun x => by
    rw [BitVec.toNat_and]; exact Nat.and_two_pow_sub_one_eq_mod x.toNat 8
  rw [e, h, BitVec.toNat_ofInt, wi64_id (by omega) (by omega), wu8_def, wu8_def]
  omega
theorem toB_append (a b : List Int) : toB a ++ toB b = toB (a ++ b) := by
  unfold toB
  apply ByteArray.ext
  simp
theorem joinsT {a b : List Int} (h : a.length + b.length ≤ 4611686018427387904) : joins (toB a) (toB b) = true := joins_ok (by rw [toB_size, toB_size]; omega)
theorem extract_toB (l : List Int) (i j : Nat) : (toB l).extract i j = toB ((l.take j).drop i) := by
  unfold toB
  apply ByteArray.ext
  simp [ByteArray.data_extract, List.map_take, List.map_drop, List.drop_take]
theorem bidx_toB {l : List Int} (h : inB l) {i : Int} (h0 : 0 ≤ i) : bidx (toB l) i = l[i.toNat]? := by rw [bidx_ofB, ofB_toB h, idx_int h0]
theorem toB_inj {a b : List Int} (ha : inB a) (hb : inB b) (h : toB a = toB b) : a = b := by rw [← ofB_toB ha, h, ofB_toB hb]
theorem seq_toB {a b : List Int} (ha : inB a) (hb : inB b) : seq (toB a) (toB b) = decide (a = b) := by
  rw [seq_eq, Bool.eq_iff_iff]
  simp only [decide_eq_true_eq]
  exact ⟨toB_inj ha hb, fun h => by rw [h]⟩
/-! superL -/
theorem spec_l00In_inr (n lo hi : Int) : spec_l00In n lo hi = some (inr n lo hi) := by rw [spec_l00In_eq, inr_sif]
theorem impl_within_inr (n lo hi : Int) : impl_within n lo hi = some (inr n lo hi) := by rw [impl_within_eq, inr_sif]
def vS (b l q t : Int) : Bool := inr b 16 256 && (inr l 8 64 && (decide (l ≤ b - 4) && (inr q 0 1000000000000 && inr t 0 1000000000000)))
theorem vS_iff {b l q t : Int} : vS b l q t = true ↔ (16 ≤ b ∧ b ≤ 256) ∧ (8 ≤ l ∧ l ≤ 64) ∧ l ≤ b - 4 ∧ (0 ≤ q ∧ q ≤ 1000000000000) ∧ (0 ≤ t ∧ t ≤ 1000000000000) := by
  unfold vS
  simp only [Bool.and_eq_true, inr_iff, decide_eq_true_eq]
def halfI (b l q t : Int) : List Int := [65, 82, 82, 83] ++ leB 1 1 ++ leB b 2 ++ leB l 2 ++ leB q 8 ++ leB t 8
def encI (b l q t : Int) : List Int := (halfI b l q t ++ List.replicate 7 0) ++ (halfI b l q t ++ List.replicate 7 0)
theorem halfI_len (b l q t : Int) : (halfI b l q t).length = 25 := by simp [halfI, leB_len]
theorem encI_len (b l q t : Int) : (encI b l q t).length = 64 := by simp [encI, halfI_len]
theorem inB_append {a b : List Int} (ha : inB a) (hb : inB b) : inB (a ++ b) := fun x hx => (List.mem_append.1 hx).elim (ha x) (hb x)
theorem halfI_in (b l q t : Int) : inB (halfI b l q t) := by
  unfold halfI
  refine inB_append (inB_append (inB_append (inB_append (inB_append ?_ (leB_in _ _)) (leB_in _ _)) (leB_in _ _)) (leB_in _ _)) (leB_in _ _)
  unfold inB; decide
theorem zeros_in (n : Nat) : inB (List.replicate n 0) := fun x hx => by rw [(List.mem_replicate.1 hx).2]; omega
theorem encI_in (b l q t : Int) : inB (encI b l q t) := inB_append (inB_append (halfI_in _ _ _ _) (zeros_in 7)) (inB_append (halfI_in _ _ _ _) (zeros_in 7))
theorem impl_putBytes_some (n : Int) (k : Nat) (hk : k ≤ 8) : impl_putBytes n (k : Int) = some (toB (leB n k)) := by
  rw [impl_putBytes_eq, sif_pos (by rw [le3_ok (by omega) (by omega)]; exact room_ok (by omega)), Int.toNat_natCast, List.length_replicate]
  have := loop_to k (fun i out => impl_putBytes_l3 n (k : Int) (i : Int) out) (fun _ _ => some (toB (leB n k))) (fun i out => out = leB n i ++ List.replicate (k - i) 0) (fun out ho => by
      rw [impl_putBytes_l3_eq, sif_f (by omega), ho]; simp)
    (fun i out hi ho ih => by
      have hlen : out.length = k := by rw [ho, List.length_append, leB_len, List.length_replicate]; omega
      rw [impl_putBytes_l3_eq, sif_t (by omega), wi64_id (n := 8 * (i : Int)) (by omega) (by omega), sif_f (by omega), sif_pos (lt3_ok (by omega) (by omega)), wi64_add1 (by omega), Int.toNat_natCast]
      refine ih _ ?_
      rw [ho, show min (8 * (i : Int)).toNat 64 = 8 * i by omega]
      have e1 : k - i = (k - (i + 1)) + 1 := by omega
      rw [e1, List.replicate_succ, List.set_append_right _ _ (by rw [leB_len]; exact Nat.le_refl _), leB_len, Nat.sub_self, List.set_cons_zero]
      unfold leB
      rw [List.range_succ, List.map_append, List.append_assoc]; rfl) 0 (List.replicate k 0) (by omega) (by simp [leB])
  simpa using this
theorem spec_l01Bytes_some (n : Int) (k : Nat) (hk : k ≤ 8) : spec_l01Bytes n (k : Int) = some (toB (leB n k)) := by
  rw [spec_l01Bytes_eq]
  have := loop_to k (fun i out => spec_l01Bytes_l3 n (k : Int) (i : Int) out) (fun _ _ => some (toB (leB n k))) (fun i out => out = leB n i) (fun out ho => by
      rw [spec_l01Bytes_l3_eq, sif_f (by omega), ho])
    (fun i out hi ho ih => by
      have hlen : out.length = i := by rw [ho, leB_len]
      rw [spec_l01Bytes_l3_eq, sif_t (by omega), wu64_id (n := (i : Int)) (by omega) (by omega), wu64_id (by omega) (by omega), sif_f (by omega), sif_pos (room_ok (by omega)), wi64_add1 (by omega)]
      refine ih _ ?_
      rw [ho, show min (8 * (i : Int)).toNat 64 = 8 * i by omega, wu8_and]
      unfold leB
      rw [List.range_succ, List.map_append]; rfl) 0 [] (by omega) rfl
  simpa using this
theorem rep7 : repeatB (bs [0]) 7 = some (toB (List.replicate 7 0)) := by rfl
theorem impl_padded_some (l : List Int) (h : l.length = 25) : impl_padded (toB l) 32 = some (toB (l ++ List.replicate 7 0)) := by
  rw [impl_padded_eq, toB_size, h, wi64_id (by omega) (by omega), show (32 - ((25 : Nat) : Int)) = 7 from rfl, impl_zeros_eq, strings_Repeat_eq, rep7, sbind_some, sbind_some, sif_pos (joinsT (by simp; omega)), toB_append]
theorem spec_l01Pad_some (l : List Int) (h : l.length = 25) : spec_l01Pad (toB l) 32 = some (toB (l ++ List.replicate 7 0)) := by
  rw [spec_l01Pad_eq, toB_size, h, sif_f (by omega), wi64_id (by omega) (by omega), show (32 - ((25 : Nat) : Int)) = 7 from rfl, sif_pos (by decide), sif_pos (joinsT (by simp; omega)), toB_append]
  rfl
theorem bsA : bs [65, 82, 82, 83] = toB [65, 82, 82, 83] := rfl
/-! reading numbers -/
theorem impl_getBits_some (m : List Int) (hm : inB m) (h8 : m.length ≤ 8) : impl_getBits (toB m) = some (leN m) := by
  rw [impl_getBits_eq, toB_size]
  have := loop_to m.length (fun i n => impl_getBits_l3 (toB m) n (m.length : Int) (i : Int)) (fun _ _ => some (leN m)) (fun i n => n = leN (m.take i)) (fun n hn => by
      rw [impl_getBits_l3_eq, sif_f (by omega), hn, List.take_length])
    (fun i n hi hn ih => by
      have hb := hm _ (List.getElem_mem hi)
      have h0 := leN_ge (inB_take hm i)
      have h1 := leN_lt (inB_take hm i)
      rw [List.length_take, show min i m.length = i by omega] at h1
      rw [impl_getBits_l3_eq, sif_t (by omega), bidx_toB hm (by omega), Int.toNat_natCast, List.getElem?_eq_getElem hi, sbind_some, sif_f (by rw [wi64_id (by omega) (by omega)]; omega), or_step (by omega) (by omega) (by omega) hb.1 hb.2, wi64_add1 (by omega)]
      refine ih _ ?_
      rw [hn, List.take_succ_eq_append_getElem hi, leN_append, List.length_take, show min i m.length = i by omega]
      simp [leN]) 0 0 (by omega) rfl
  simpa using this
theorem impl_number_some (l : List Int) (hl : inB l) (k : Nat) (hk : k ≤ 8) (h : k ≤ l.length) (hn : l.length ≤ 1048576) (bad : Bool) : impl_decoder_number_w (k : Int) (toB l) bad = some (wi64 (leN (l.take k)), toB (l.drop k), bad) := by
  rw [impl_decoder_number_w_eq, impl_decoder_take_w_eq, impl_cut_eq, toB_size, sif_f (by omega), impl_within_inr, sbind_some, wi64_id (n := (l.length : Int) - k) (by omega) (by omega), show inr 0 0 ((l.length : Int) - k) = true by rw [inr_iff]; omega, Bool.not_true, sif_false, wi64_id (n := 0 + (k : Int)) (by omega) (by omega), sif_pos (le3_ok (by omega) (by omega)), sif_pos (le3_ok (by omega) (by omega)), sbind_some]
  dsimp only
  rw [Bool.not_true, sif_false, sif_pos (le3_ok (by omega) (by omega)), sbind_some]
  dsimp only
  have e1 : (0 + (k : Int)).toNat = k := by omega
  rw [e1, Int.toNat_natCast, extract_toB, extract_toB, List.take_length]
  have e2 : (0 : Int).toNat = 0 := rfl
  rw [e2, List.drop_zero, impl_getBits_some (l.take k) (inB_take hl k) (by rw [List.length_take]; omega), sbind_some]
theorem spec_GetUint_loop (l : List Int) (hl : inB l) (at_ size : Nat) (h : at_ + size ≤ l.length) (hn : l.length ≤ 1048576) (hb : leN ((l.drop at_).take size) ≤ 9223372036854775807) : ∀ (k : Nat), k ≤ size →
    spec_l01GetUint_l5 (toB l) (at_ : Int) (leN ((l.drop (at_ + k)).take (size - k))) ((k : Int) - 1) = some (leN ((l.drop at_).take size), true) := by
  intro k
  induction k with
  | zero => intro _; rw [spec_l01GetUint_l5_eq, sif_f (by omega)]; simp
  | succ k ih =>
    intro hk
    have hlt : at_ + k < l.length := by omega
    have hx := hl _ (List.getElem_mem hlt)
    have e0 : ((k + 1 : Nat) : Int) - 1 = k := by omega
    have hd : (l.drop (at_ + k)).take (size - k) = l[at_ + k] :: (l.drop (at_ + (k + 1))).take (size - (k + 1)) := by
      rw [List.drop_eq_getElem_cons hlt, show size - k = (size - (k + 1)) + 1 by omega, List.take_succ_cons]; rfl
    have hs : (l.drop (at_ + k)).take (size - k) = ((l.drop at_).take size).drop k := by rw [List.drop_take, List.drop_drop]
    have hle := leN_drop (inB_take (inB_drop hl at_) size) k
    rw [← hs] at hle
    have hge := leN_ge (inB_take (inB_drop hl (at_ + (k + 1))) (size - (k + 1)))
    have ih := ih (by omega)
    rw [hd] at hle ih
    simp only [leN] at hle ih
    rw [e0, spec_l01GetUint_l5_eq, sif_t (by omega), wi64_id (n := (at_ : Int) + k) (by omega) (by omega), bidx_toB hl (by omega), show ((at_ : Int) + k).toNat = at_ + k by omega, List.getElem?_eq_getElem hlt, sbind_some, wi64_id (n := l[at_ + k]) (by omega) (by omega), wi64_id (n := _ * 256) (by omega) (by omega), wi64_id (n := _ + l[at_ + k]) (by omega) (by omega), wi64_id (n := (k : Int) - 1) (by omega) (by omega)]
    rw [← ih]
    congr 1
    omega
theorem spec_GetUint_small (l : List Int) (hl : inB l) (at_ size : Nat) (h1 : 1 ≤ size) (h7 : size ≤ 7) (h : at_ + size ≤ l.length) (hn : l.length ≤ 1048576) : spec_l01GetUint (toB l) (at_ : Int) (size : Int) = some (leN ((l.drop at_).take size), true) := by
  have hlt := leN_lt (inB_take (inB_drop hl at_) size)
  have hle : (256 : Int) ^ ((l.drop at_).take size).length ≤ 256 ^ 7 := by
    have : (256 : Nat) ^ ((l.drop at_).take size).length ≤ 256 ^ 7 := Nat.pow_le_pow_right (by decide) (by rw [List.length_take]; omega)
    exact_mod_cast this
  have := spec_GetUint_loop l hl at_ size h hn (by omega) size (Nat.le_refl _)
  rw [Nat.sub_self, List.take_zero] at this
  rw [spec_l01GetUint_eq, spec_l01Within_eq, spec_l00In_inr, sbind_some, show inr (size : Int) 1 8 = true by rw [inr_iff]; omega, sif_true, spec_l00In_inr, sbind_some, toB_size, show inr (at_ : Int) 0 (l.length : Int) = true by rw [inr_iff]; omega, sif_true, wi64_id (by omega) (by omega), sbind_some, show decide ((size : Int) ≤ (l.length : Int) - at_) = true by rw [decide_eq_true_eq]; omega, Bool.not_true, sif_false, sif_neg (by rw [beq_eq_false_iff_ne]; omega), wi64_id (by omega) (by omega)]
  exact this
theorem top_small {m : List Int} (hm : inB m) (h8 : m.length = 8) : (m[7]? : Option Int).getD 0 ≤ 127 → leN m ≤ 9223372036854775807 := by
  intro ht
  match m, h8 with
  | [a, b, c, d, e, f, g, h], _ =>
    have h0 := hm a (by simp); have h1 := hm b (by simp); have h2 := hm c (by simp); have h3 := hm d (by simp); have h4 := hm e (by simp); have h5 := hm f (by simp); have h6 := hm g (by simp)
    simp at ht
    simp only [leN]; omega
theorem top_big {m : List Int} (hm : inB m) (h8 : m.length = 8) : 127 < (m[7]? : Option Int).getD 0 → wi64 (leN m) < 0 := by
  intro ht
  match m, h8 with
  | [a, b, c, d, e, f, g, h], _ =>
    have h0 := hm a (by simp); have h1 := hm b (by simp); have h2 := hm c (by simp); have h3 := hm d (by simp); have h4 := hm e (by simp); have h5 := hm f (by simp); have h6 := hm g (by simp); have h7 := hm h (by simp)
    simp at ht
    have hN : leN [a, b, c, d, e, f, g, h] = a + 256 * (b + 256 * (c + 256 * (d + 256 * (e + 256 * (f + 256 * (g + 256 * (h + 256 * 0))))))) := rfl
    rw [wi64_def, if_pos (by omega)]; omega
theorem spec_GetUint_eight (l : List Int) (hl : inB l) (at_ : Nat) (h : at_ + 8 ≤ l.length) (hn : l.length ≤ 1048576) : spec_l01GetUint (toB l) (at_ : Int) 8 = some (if 127 < ((((l.drop at_).take 8))[7]? : Option Int).getD 0 then (0, false) else (leN ((l.drop at_).take 8), true)) := by
  have hlt : at_ + 7 < l.length := by omega
  have hget : ((l.drop at_).take 8)[7]? = some l[at_ + 7] := by rw [List.getElem?_take, if_pos (by omega), List.getElem?_drop, List.getElem?_eq_getElem hlt]
  have h8 : ((l.drop at_).take 8).length = 8 := by rw [List.length_take, List.length_drop]; omega
  rw [spec_l01GetUint_eq, spec_l01Within_eq, spec_l00In_inr, sbind_some, show inr 8 1 8 = true by rw [inr_iff]; omega, sif_true, spec_l00In_inr, sbind_some, toB_size, show inr (at_ : Int) 0 (l.length : Int) = true by rw [inr_iff]; omega, sif_true, wi64_id (by omega) (by omega), sbind_some, show decide ((8 : Int) ≤ (l.length : Int) - at_) = true by rw [decide_eq_true_eq]; omega, Bool.not_true, sif_false, sif_pos (show ((8 : Int) == 8) = true from rfl), wi64_id (n := (at_ : Int) + 7) (by omega) (by omega), bidx_toB hl (by omega), show ((at_ : Int) + 7).toNat = at_ + 7 by omega, List.getElem?_eq_getElem hlt, sbind_some, hget]
  dsimp only [Option.getD_some]
  by_cases hb : 127 < l[at_ + 7]
  · rw [if_pos hb, sif_t (by omega)]
  · rw [if_neg hb, sif_f (by omega), wi64_id (by omega) (by omega)]
    have := spec_GetUint_loop l hl at_ 8 h hn (top_small (inB_take (inB_drop hl at_) 8) h8 (by rw [hget]; dsimp only [Option.getD_some]; omega)) 8 (Nat.le_refl _)
    rw [Nat.sub_self, List.take_zero] at this
    exact this
/-! nodeV -/
abbrev Chk := Int × Int × Int × Int
def incr : List Int → Bool
  | a :: b :: r => decide (a < b) && incr (b :: r)
  | _ => true
def okC (c : Chk) : Bool := inr c.1 0 65535 && (inr c.2.1 1 255 && (inr c.2.2.1 0 65535 && inr c.2.2.2 0 255))
def vN (leaf : Bool) (ch : List Chk) (ks kd : List Int) : Bool :=
  if leaf = true then (ks.length == 0) && ((kd.length == 0) && (decide (ch.length ≤ 8) && (incr (ch.map (·.1)) && ch.all okC)))
  else (ch.length == 0) && (inr ks.length 1 7 && (incr ks && (ks.all (fun n => inr n 0 65535) && ((kd.length == ks.length + 1) && kd.all (fun n => inr n 1 255)))))
theorem impl_increasing_some (l : List Int) (hn : l.length ≤ 1048576) : impl_increasing l = some (incr l) := by
  rw [impl_increasing_eq]
  have key : ∀ n i, l.length = i + n → impl_increasing_l2 l ((i + 1 : Nat) : Int) = some (incr (l.drop i)) := by
    intro n
    induction n with
    | zero =>
      intro i hi
      rw [impl_increasing_l2_eq, sif_f (by omega), List.drop_of_length_le (by omega)]; rfl
    | succ n ih =>
      intro i hi
      have hlt : i < l.length := by omega
      rw [impl_increasing_l2_eq]
      by_cases h : i + 1 < l.length
      · rw [sif_t (by omega), idx_nat, List.getElem?_eq_getElem h, sbind_some, wi64_id (by omega) (by omega), show ((i + 1 : Nat) : Int) - 1 = (i : Int) by omega, idx_nat, List.getElem?_eq_getElem hlt, sbind_some, wi64_add1 (by omega), ih (i + 1) (by omega), List.drop_eq_getElem_cons hlt, List.drop_eq_getElem_cons h, incr]
        by_cases hc : l[i] < l[i + 1]
        · rw [sif_f (by omega), decide_eq_true hc, Bool.true_and]
        · rw [sif_t (by omega), decide_eq_false hc, Bool.false_and]
      · rw [sif_f (by omega), List.drop_eq_getElem_cons hlt, List.drop_of_length_le (by omega)]; rfl
  exact key l.length 0 (by omega)
theorem impl_keysOf_some (ch : List Chk) (hn : ch.length ≤ 1048576) : impl_keysOf ch = some (ch.map (·.1)) := by
  rw [impl_keysOf_eq]
  have := loop_to ch.length (fun i out => impl_keysOf_l3 ch (ch.length : Int) (i : Int) out) (fun _ _ => some (ch.map (·.1))) (fun i out => out = (ch.take i).map (·.1)) (fun out ho => by
      rw [impl_keysOf_l3_eq, sif_f (by omega), ho, List.take_length])
    (fun i out hi ho ih => by
      have hlen : out.length = i := by rw [ho, List.length_map, List.length_take]; omega
      rw [impl_keysOf_l3_eq, sif_t (by omega), idx_nat, List.getElem?_eq_getElem hi, sbind_some, sif_pos (room_ok (by omega)), wi64_add1 (by omega)]
      refine ih _ ?_
      rw [ho, List.take_succ_eq_append_getElem hi, List.map_append]; rfl) 0 [] (by omega) rfl
  simpa using this
theorem impl_allWithin_some (l : List Int) (lo hi : Int) (hn : l.length ≤ 1048576) : impl_allWithin l lo hi = some (l.all (fun n => inr n lo hi)) := by
  have k1 : slices_ContainsFunc_sint64_int64_d_allWithin_1 l lo hi = some (l.any (fun n => !inr n lo hi)) := by
    rw [slices_ContainsFunc_sint64_int64_d_allWithin_1_eq, slices_IndexFunc_sint64_int64_d_allWithin_1_eq]
    refine find_any (find_loop l _ (fun i => slices_IndexFunc_sint64_int64_d_allWithin_1_l2 l (l.length : Int) i lo hi) (by rw [slices_IndexFunc_sint64_int64_d_allWithin_1_l2_eq, sif_f (by omega)]) (fun i x hx hi => ?_))
    rw [slices_IndexFunc_sint64_int64_d_allWithin_1_l2_eq, sif_t (by omega), idx_some hx, sbind_some, impl_allWithin_1_eq, impl_within_inr, sbind_some, sbind_some, wi64_add1 (by omega)]
  rw [impl_allWithin_eq, k1, sbind_some, any_not_all l (fun n => inr n lo hi) _ (fun _ _ => rfl), Bool.not_not]
theorem len0 (n : Nat) : ((n : Int) == 0) = (n == 0) := by
  rw [Bool.eq_iff_iff]; simp
theorem impl_ValidNode_some (leaf : Bool) (ch : List Chk) (ks kd : List Int) (h1 : ch.length ≤ 1048576) (h2 : ks.length ≤ 1048576) (h3 : kd.length ≤ 1048576) : impl_ValidNode leaf ch ks kd = some (vN leaf ch ks kd) := by
  have k1 : slices_ContainsFunc_simpl_Chunk_impl_Chunk_d_ValidNode_1 ch = some (ch.any (fun c => !okC c)) := by
    rw [slices_ContainsFunc_simpl_Chunk_impl_Chunk_d_ValidNode_1_eq, slices_IndexFunc_simpl_Chunk_impl_Chunk_d_ValidNode_1_eq]
    refine find_any (find_loop ch _ (fun i => slices_IndexFunc_simpl_Chunk_impl_Chunk_d_ValidNode_1_l2 ch (ch.length : Int) i) (by rw [slices_IndexFunc_simpl_Chunk_impl_Chunk_d_ValidNode_1_l2_eq, sif_f (by omega)]) (fun i x hx hi => ?_))
    rw [slices_IndexFunc_simpl_Chunk_impl_Chunk_d_ValidNode_1_l2_eq, sif_t (by omega), idx_some hx, sbind_some, impl_ValidNode_1_eq, impl_chunkOk_eq]
    simp only [impl_within_inr, sbind_some, sif_bool]
    rw [wi64_add1 (by omega)]; rfl
  have e8 : decide ((ch.length : Int) ≤ 8) = decide (ch.length ≤ 8) := by rw [Bool.eq_iff_iff]; simp; omega
  have ek : ((kd.length : Int) == wi64 ((ks.length : Int) + 1)) = (kd.length == ks.length + 1) := by
    rw [wi64_id (by omega) (by omega), Bool.eq_iff_iff]; simp; omega
  rw [impl_ValidNode_eq, impl_keysOf_some ch h1, impl_allWithin_some ks _ _ h2, impl_allWithin_some kd _ _ h3]
  simp only [sbind_some, impl_increasing_some _ h2, impl_increasing_some (ch.map (·.1)) (by simpa using h1), k1, impl_within_inr, any_not_all ch okC _ (fun _ _ => rfl), Bool.not_not, sif_bool, len0, e8, ek]
  unfold vN
  cases leaf <;> rfl
/-! nodeS -/
theorem rises_loop (l : List Int) (lo hi : Int) (hn : l.length ≤ 1048576) : ∀ n i, l.length = i + n → spec_l00Rises_l2 l lo hi ((i + 1 : Nat) : Int) = some (incr (l.drop i) && (l.drop (i + 1)).all (fun n => inr n lo hi)) := by
  intro n
  induction n with
  | zero =>
    intro i hq
    rw [spec_l00Rises_l2_eq, sif_f (by omega), List.drop_of_length_le (by omega), List.drop_of_length_le (by omega)]; rfl
  | succ n ih =>
    intro i hq
    have hlt : i < l.length := by omega
    rw [spec_l00Rises_l2_eq]
    by_cases h : i + 1 < l.length
    · rw [sif_t (by omega), idx_nat, List.getElem?_eq_getElem h, sbind_some, spec_l00In_inr, sbind_some, sif_t (by omega), wi64_id (by omega) (by omega), show ((i + 1 : Nat) : Int) - 1 = (i : Int) by omega, idx_nat, List.getElem?_eq_getElem hlt, sbind_some, sbind_some, wi64_add1 (by omega), ih (i + 1) (by omega), List.drop_eq_getElem_cons hlt, List.drop_eq_getElem_cons h, incr, List.all_cons, sif_not]
      by_cases hc : l[i] < l[i + 1]
      · rw [sif_f (by omega), decide_eq_true hc, Bool.true_and, sif_bool]
        cases inr l[i + 1] lo hi <;> cases incr (l[i + 1] :: List.drop (i + 1 + 1) l) <;> simp
      · rw [sif_t (by omega), decide_eq_false hc, Bool.false_and, sif_same]; rfl
    · rw [sif_f (by omega), List.drop_eq_getElem_cons hlt, List.drop_of_length_le (by omega)]; rfl
theorem spec_l00Rises_some (l : List Int) (lo hi : Int) (hn : l.length ≤ 1048576) : spec_l00Rises l lo hi = some (incr l && l.all (fun n => inr n lo hi)) := by
  rw [spec_l00Rises_eq, spec_l00Rises_l2_eq]
  cases l with
  | nil => rw [sif_f (by simp)]; rfl
  | cons a r =>
    have := rises_loop (a :: r) lo hi hn (a :: r).length 0 (by omega)
    rw [sif_t (by simp), show idx (a :: r) 0 = some a from rfl, sbind_some, spec_l00In_inr, sbind_some, sif_f (by omega), show wi64 (0 + 1) = ((0 + 1 : Nat) : Int) from rfl, this, sif_not, sif_bool, List.all_cons]
    simp only [List.drop_zero, Nat.zero_add, List.drop_succ_cons]
    cases inr a lo hi <;> cases incr (a :: r) <;> rfl
theorem chunks_loop (leaf : Bool) (ch : List Chk) (ks kd : List Int) (h8 : ch.length ≤ 8) : ∀ n i, ch.length = i + n → spec_l15Node_l3 ((i + 1 : Nat) : Int) leaf ch ks kd = some ((incr ((ch.drop i).map (·.1)) && (ch.drop (i + 1)).all okC) && ((ks.length == 0) && (kd.length == 0))) := by
  have e8 : decide ((ch.length : Int) ≤ 8) = true := by rw [decide_eq_true_eq]; omega
  intro n
  induction n with
  | zero =>
    intro i hi
    rw [spec_l15Node_l3_eq, sif_f (by omega), List.drop_of_length_le (by omega), List.drop_of_length_le (by omega), e8, sif_true, sif_bool, len0, len0]; rfl
  | succ n ih =>
    intro i hi
    have hlt : i < ch.length := by omega
    rw [spec_l15Node_l3_eq]
    by_cases h : i + 1 < ch.length
    · rw [sif_t (by omega), sif_t (by omega), idx_nat, List.getElem?_eq_getElem h, sbind_some, spec_l15Chunk_eq]
      simp only [spec_l00In_inr, sbind_some, sif_bool]
      rw [sif_t (by omega), wi64_id (by omega) (by omega), show ((i + 1 : Nat) : Int) - 1 = (i : Int) by omega, idx_nat, List.getElem?_eq_getElem hlt, sbind_some, wi64_add1 (by omega), ih (i + 1) (by omega), List.drop_eq_getElem_cons hlt, List.drop_eq_getElem_cons h, List.map_cons, List.map_cons, List.all_cons, sif_not]
      show sif (okC ch[i + 1]) _ _ = some (((decide (ch[i].1 < ch[i + 1].1) && incr (ch[i + 1].1 :: List.map (·.1) (List.drop (i + 1 + 1) ch))) && (okC ch[i + 1] && (List.drop (i + 1 + 1) ch).all okC)) && ((ks.length == 0) && (kd.length == 0)))
      by_cases hc : ch[i].1 < ch[i + 1].1
      · rw [sif_f (by omega), decide_eq_true hc, Bool.true_and, sif_bool]
        cases okC ch[i + 1] <;> cases incr (ch[i + 1].1 :: List.map (·.1) (List.drop (i + 1 + 1) ch)) <;> simp
      · rw [sif_t (by omega), decide_eq_false hc, Bool.false_and, sif_same]; rfl
    · rw [sif_f (by omega), List.drop_eq_getElem_cons hlt, List.drop_of_length_le (by omega), e8, sif_true, sif_bool, len0, len0]; rfl
theorem chunks_many (leaf : Bool) (ch : List Chk) (ks kd : List Int) (h9 : 8 < ch.length) (hn : ch.length ≤ 1048576) : ∀ n i : Nat, 9 = i + n → spec_l15Node_l3 (i : Int) leaf ch ks kd = some false := by
  have e8 : decide ((ch.length : Int) ≤ 8) = false := by rw [decide_eq_false_iff_not]; omega
  intro n
  induction n with
  | zero =>
    intro i hi
    have hb : decide ((i : Int) ≤ 8) = false := by rw [decide_eq_false_iff_not]; omega
    rw [spec_l15Node_l3_eq, e8]
    simp only [hb, sif_false, sif_same]
  | succ n ih =>
    intro i hi
    have hlt : i < ch.length := by omega
    rw [spec_l15Node_l3_eq, sif_t (by omega), sif_t (by omega), idx_nat, List.getElem?_eq_getElem hlt, sbind_some, spec_l15Chunk_eq]
    simp only [spec_l00In_inr, sbind_some, sif_bool]
    rw [wi64_add1 (by omega), ih (i + 1) (by omega)]
    by_cases h0 : (i : Int) > 0
    · obtain ⟨j, rfl⟩ : ∃ j, i = j + 1 := ⟨i - 1, by omega⟩
      rw [sif_t h0, wi64_id (by omega) (by omega), show ((j + 1 : Nat) : Int) - 1 = (j : Int) by omega, idx_nat, List.getElem?_eq_getElem (show j < ch.length by omega), sbind_some, sif_same, sif_same]
    · rw [sif_f h0, sif_same]
theorem spec_l15Node_some (leaf : Bool) (ch : List Chk) (ks kd : List Int) (h1 : ch.length ≤ 1048576) (h2 : ks.length ≤ 1048576) (h3 : kd.length ≤ 1048576) : spec_l15Node leaf ch ks kd = some (vN leaf ch ks kd) := by
  rw [spec_l15Node_eq]
  unfold vN
  cases leaf with
  | true =>
    rw [sif_true, if_pos rfl]
    by_cases h8 : ch.length ≤ 8
    · rw [decide_eq_true h8]
      cases ch with
      | nil => rw [spec_l15Node_l3_eq, sif_f (by simp), sif_t (by simp), sif_bool, len0, len0]; simp [incr]
      | cons c r =>
        have := chunks_loop true (c :: r) ks kd h8 (c :: r).length 0 (by omega)
        rw [spec_l15Node_l3_eq, sif_t (by simp), sif_t (by omega), show idx (c :: r) 0 = some c from rfl, sbind_some, spec_l15Chunk_eq]
        simp only [spec_l00In_inr, sbind_some, sif_bool]
        rw [sif_f (by omega), show wi64 (0 + 1) = ((0 + 1 : Nat) : Int) from rfl, this, sif_not]
        show sif (okC c) _ _ = _
        rw [sif_bool, List.all_cons]
        simp only [List.drop_zero, Nat.zero_add, List.drop_succ_cons]
        cases okC c <;> cases incr ((c :: r).map (·.1)) <;> cases (ks.length == 0) <;> cases (kd.length == 0) <;> simp
    · rw [decide_eq_false h8, show spec_l15Node_l3 0 true ch ks kd = some false from chunks_many true ch ks kd (by omega) h1 9 0 (by omega)]
      simp
  | false =>
    have ek : ((kd.length : Int) != wi64 ((ks.length : Int) + 1)) = !(kd.length == ks.length + 1) := by
      rw [wi64_id (by omega) (by omega), Bool.eq_iff_iff]; simp; omega
    have ec : ((ch.length : Int) != 0) = !(ch.length == 0) := by rw [Bool.eq_iff_iff]; simp
    have hk := all_loop kd (fun n => inr n 1 255) (fun i => spec_l15Node_l11 (i : Int) false ch ks kd) false (fun i x hx hi => by
      rw [spec_l15Node_l11_eq, sif_t (by omega), idx_some hx, sbind_some, spec_l00In_inr, sbind_some, sif_not, wi64_add1 (by omega)])
    have h0 : spec_l15Node_l11 0 false ch ks kd = some (kd.all (fun n => inr n 1 255)) := by
      refine Eq.trans hk ?_
      rw [spec_l15Node_l11_eq, sif_f (Int.lt_irrefl _), sif_bool, Bool.and_true]
    rw [sif_false, if_neg (by decide), spec_l00In_inr, sbind_some, spec_l00Rises_some ks _ _ h2, sbind_some, h0, ek, ec]
    cases inr ks.length 1 7 <;> cases (kd.length == ks.length + 1) <;> cases (ch.length == 0) <;> cases incr ks <;> cases ks.all (fun n => inr n 0 65535) <;> simp
/-! nodeE -/
theorem repeatL_zero : ∀ n, Lib.repeatL [(0 : UInt8)] n = List.replicate n 0
  | 0 => rfl
  | n + 1 => by rw [Lib.repeatL, repeatL_zero n, List.replicate_succ]; rfl
theorem repB_zero (n : Nat) (hn : n ≤ 64) : repB (bs [0]) n = toB (List.replicate n 0) := by
  have e : (bs [0]).data.toList = [(0 : UInt8)] := rfl
  unfold repB toB
  rw [e, repeatL_zero, List.map_replicate]; rfl
def pad64 (l : List Int) : List Int := l ++ List.replicate (64 - l.length) 0
theorem pad64_len {l : List Int} (h : l.length ≤ 64) : (pad64 l).length = 64 := by simp [pad64]; omega
theorem pad64_in {l : List Int} (h : inB l) : inB (pad64 l) := inB_append h (zeros_in _)
theorem impl_pad_some (l : List Int) (h : l.length ≤ 64) : impl_padded (toB l) 64 = some (toB (pad64 l)) := by
  have e : (64 - (l.length : Int)) = ((64 - l.length : Nat) : Int) := by omega
  have hs : (bs [0]).size = 1 := rfl
  rw [impl_padded_eq, toB_size, wi64_id (by omega) (by omega), e, impl_zeros_eq, strings_Repeat_eq]
  unfold repeatB
  rw [if_pos ⟨by omega, by omega, by rw [hs]; omega⟩, sbind_some, sbind_some, Int.toNat_natCast, repB_zero _ (by omega), sif_pos (joinsT (by simp; omega)), toB_append]
  rfl
theorem spec_pad_some (l : List Int) (h : l.length ≤ 64) : spec_l01Pad (toB l) 64 = some (toB (pad64 l)) := by
  rw [spec_l01Pad_eq, toB_size]
  by_cases h64 : l.length = 64
  · rw [sif_t (by omega)]
    unfold pad64
    rw [h64]; simp
  · have e : (64 - (l.length : Int)) = ((64 - l.length : Nat) : Int) := by omega
    rw [sif_f (by omega), wi64_id (by omega) (by omega), e, Int.toNat_natCast, le3_ok (by omega) (by omega), room_ok (by omega), show (true && true) = true from rfl, sif_true, sif_pos (joinsT (by simp; omega)), toB_append]
    rfl
def encC (c : Chk) : List Int := leB c.1 2 ++ leB c.2.1 2 ++ leB c.2.2.1 2 ++ leB c.2.2.2 1
def encP (l : List Int) : List Int := l.flatMap (fun n => leB n 2)
def bodyN (leaf : Bool) (ch : List Chk) (ks kd : List Int) : List Int :=
  if leaf = true then leB 1 1 ++ leB (ch.length : Int) 1 ++ ch.flatMap encC else leB 2 1 ++ leB (ks.length : Int) 1 ++ encP kd ++ encP ks
def encN (leaf : Bool) (ch : List Chk) (ks kd : List Int) : List Int := pad64 (bodyN leaf ch ks kd)
theorem encC_len (c : Chk) : (encC c).length = 7 := by simp [encC, leB_len]
theorem encC_in (c : Chk) : inB (encC c) := inB_append (inB_append (inB_append (leB_in _ _) (leB_in _ _)) (leB_in _ _)) (leB_in _ _)
theorem flatC_len (ch : List Chk) : (ch.flatMap encC).length = 7 * ch.length := by
  induction ch with
  | nil => rfl
  | cons c ch ih => rw [List.flatMap_cons, List.length_append, encC_len, ih, List.length_cons]; omega
theorem flatC_in (ch : List Chk) : inB (ch.flatMap encC) := fun x hx => by
  obtain ⟨c, _, h⟩ := List.mem_flatMap.1 hx
  exact encC_in c x h
theorem encP_len (l : List Int) : (encP l).length = 2 * l.length := by
  unfold encP
  induction l with
  | nil => rfl
  | cons c l ih => rw [List.flatMap_cons, List.length_append, leB_len, ih, List.length_cons]; omega
theorem encP_in (l : List Int) : inB (encP l) := fun x hx => by
  obtain ⟨c, _, h⟩ := List.mem_flatMap.1 hx
  exact leB_in _ _ x h
theorem bodyN_in (leaf : Bool) (ch : List Chk) (ks kd : List Int) : inB (bodyN leaf ch ks kd) := by
  unfold bodyN
  split
  · exact inB_append (inB_append (leB_in _ _) (leB_in _ _)) (flatC_in _)
  · exact inB_append (inB_append (inB_append (leB_in _ _) (leB_in _ _)) (encP_in _)) (encP_in _)
theorem vN_leaf {ch : List Chk} {ks kd : List Int} : vN true ch ks kd = true ↔ ks = [] ∧ kd = [] ∧ ch.length ≤ 8 ∧ incr (ch.map (·.1)) = true ∧ ∀ c ∈ ch, okC c = true := by
  unfold vN
  simp only [if_true, Bool.and_eq_true, beq_iff_eq, List.length_eq_zero_iff, decide_eq_true_eq, List.all_eq_true]
theorem vN_inner {ch : List Chk} {ks kd : List Int} : vN false ch ks kd = true ↔ ch = [] ∧ (1 ≤ ks.length ∧ ks.length ≤ 7) ∧ incr ks = true ∧ (∀ n ∈ ks, 0 ≤ n ∧ n ≤ 65535) ∧ kd.length = ks.length + 1 ∧ ∀ n ∈ kd, 1 ≤ n ∧ n ≤ 255 := by
  unfold vN
  simp only [Bool.false_eq_true, if_false, Bool.and_eq_true, beq_iff_eq, List.length_eq_zero_iff, inr_iff, List.all_eq_true]
  constructor
  · rintro ⟨h1, ⟨h2, h3⟩, h4⟩; exact ⟨h1, ⟨by omega, by omega⟩, h4⟩
  · rintro ⟨h1, ⟨h2, h3⟩, h4⟩; exact ⟨h1, ⟨by omega, by omega⟩, h4⟩
theorem bodyN_len {leaf : Bool} {ch : List Chk} {ks kd : List Int} (hv : vN leaf ch ks kd = true) : (bodyN leaf ch ks kd).length ≤ 64 := by
  unfold bodyN
  cases leaf with
  | true =>
    rw [vN_leaf] at hv
    rw [if_pos rfl]; simp only [List.length_append, leB_len, flatC_len]; omega
  | false =>
    rw [vN_inner] at hv
    rw [if_neg (by decide)]; simp only [List.length_append, leB_len, encP_len]; omega
/-! nodeF -/
theorem encP_succ {l : List Int} {i : Nat} (hi : i < l.length) : encP (l.take (i + 1)) = encP (l.take i) ++ leB l[i] 2 := by
  unfold encP
  rw [List.take_succ_eq_append_getElem hi, List.flatMap_append, List.flatMap_cons, List.flatMap_nil, List.append_nil]
theorem nwrite_some (s buf : List Int) (hs : inB s) (h : buf.length + s.length ≤ 140737488355328) : strings_Builder_WriteString_wv (toB s) buf = some ((s.length : Int), buf ++ s) := by
  rw [strings_Builder_WriteString_wv_eq, strings_Builder_copyCheck_eq, sbind_some, ofB_toB hs, sif_pos (room_ok (by omega)), toB_size]
theorem impl_putPairs_some (l : List Int) (hn : l.length ≤ 1000) : impl_putPairs l = some (toB (encP l)) := by
  rw [impl_putPairs_eq]
  have := loop_to l.length (fun i buf => impl_putPairs_l3 l (l.length : Int) (i : Int) buf) (fun _ _ => some (toB (encP l))) (fun i buf => buf = encP (l.take i)) (fun buf hb => by
      rw [impl_putPairs_l3_eq, sif_f (by omega), strings_Builder_String_eq, hb, List.take_length]
      unfold textB
      rw [if_pos (by rw [encP_len]; omega), sbind_some])
    (fun i buf hi hb ih => by
      have e := impl_putBytes_some l[i] 2 (by omega)
      have hlen : buf.length = 2 * i := by rw [hb, encP_len, List.length_take]; omega
      rw [impl_putPairs_l3_eq, sif_t (by omega), idx_nat, List.getElem?_eq_getElem hi, sbind_some, show impl_putBytes l[i] 2 = _ from e, sbind_some, nwrite_some _ _ (leB_in _ _) (by rw [leB_len]; omega), sbind_some, wi64_add1 (by omega)]
      refine ih _ ?_
      rw [hb, encP_succ hi]) 0 [] (by omega) rfl
  simpa using this
theorem impl_encode_node {leaf : Bool} {ch : List Chk} {ks kd : List Int} (hv : vN leaf ch ks kd = true) : impl_Node_encode leaf ch ks kd = some (toB (encN leaf ch ks kd)) := by
  have hlen := bodyN_len hv
  rw [impl_Node_encode_eq]
  unfold encN
  cases leaf with
  | false =>
    rw [vN_inner] at hv
    obtain ⟨_, ⟨a1, a2⟩, _, _, a3, _⟩ := hv
    have e1 := impl_putBytes_some 2 1 (by omega); have e2 := impl_putBytes_some (ks.length : Int) 1 (by omega)
    have hp := impl_pad_some (bodyN false ch ks kd) hlen
    unfold bodyN at hp
    rw [if_neg (by decide)] at hp
    rw [Bool.not_false, sif_true, show impl_putBytes 2 1 = _ from e1, show impl_putBytes (ks.length : Int) 1 = _ from e2, impl_putPairs_some kd (by omega), impl_putPairs_some ks (by omega)]
    simp only [sbind_some, toB_append]
    rw [sif_pos (joinsT (by simp [leB_len])), sif_pos (joinsT (by simp [leB_len, encP_len]; omega)), sif_pos (joinsT (by simp [leB_len, encP_len]; omega)), hp, sbind_some]
    unfold bodyN
    rw [if_neg (by decide)]
  | true =>
    rw [vN_leaf] at hv
    obtain ⟨_, _, a1, _, _⟩ := hv
    have e1 := impl_putBytes_some 1 1 (by omega); have e2 := impl_putBytes_some (ch.length : Int) 1 (by omega)
    have hp := impl_pad_some (bodyN true ch ks kd) hlen
    unfold bodyN at hp ⊢
    rw [if_pos rfl] at hp ⊢
    rw [Bool.not_true, sif_false, show impl_putBytes 1 1 = _ from e1, show impl_putBytes (ch.length : Int) 1 = _ from e2]
    simp only [sbind_some, toB_append]
    rw [sif_pos (joinsT (by simp [leB_len]))]
    have hpre : (leB 1 1 ++ leB (ch.length : Int) 1).length = 2 := by simp [leB_len]
    generalize leB 1 1 ++ leB (ch.length : Int) 1 = pre at hp hpre
    have := loop_to ch.length (fun i out => impl_Node_encode_l5 out ch (ch.length : Int) (i : Int)) (fun _ _ => some (toB (pad64 (pre ++ ch.flatMap encC)))) (fun i out => out = toB (pre ++ (ch.take i).flatMap encC)) (fun out ho => by
        rw [impl_Node_encode_l5_eq, sif_f (by omega), ho, List.take_length, hp, sbind_some])
      (fun i out hi ho ih => by
        have f1 := impl_putPairs_some [ch[i].1, ch[i].2.1, ch[i].2.2.1] (by simp)
        have f2 := impl_putBytes_some ch[i].2.2.2 1 (by omega)
        have hfi := flatC_len (ch.take i)
        rw [List.length_take] at hfi
        rw [impl_Node_encode_l5_eq, sif_t (by omega), idx_nat, List.getElem?_eq_getElem hi, sbind_some, f1, sbind_some, show impl_putBytes ch[i].2.2.2 1 = _ from f2, sbind_some, sif_pos (joinsT (by simp [leB_len, encP_len])), ho]
        simp only [toB_append]
        rw [sif_pos (joinsT (by simp only [List.length_append, leB_len, encP_len, List.length_cons, List.length_nil]; omega)), wi64_add1 (by omega)]
        refine ih _ ?_
        rw [List.take_succ_eq_append_getElem hi, List.flatMap_append]
        simp [encC, encP]) 0 (toB pre) (by omega) (by simp)
    simpa using this
theorem spec_encode_node {leaf : Bool} {ch : List Chk} {ks kd : List Int} (hv : vN leaf ch ks kd = true) : spec_l15Encode leaf ch ks kd = some (toB (encN leaf ch ks kd)) := by
  have hlen := bodyN_len hv
  rw [spec_l15Encode_eq]
  unfold encN
  cases leaf with
  | false =>
    rw [vN_inner] at hv
    obtain ⟨_, ⟨a1, a2⟩, _, _, a3, _⟩ := hv
    have e1 := spec_l01Bytes_some 2 1 (by omega); have e2 := spec_l01Bytes_some (ks.length : Int) 1 (by omega)
    have hp := spec_pad_some (bodyN false ch ks kd) hlen
    unfold bodyN at hp ⊢
    rw [if_neg (by decide)] at hp ⊢
    rw [sif_false, show spec_l01Bytes 2 1 = _ from e1, show spec_l01Bytes (ks.length : Int) 1 = _ from e2]
    simp only [sbind_some, toB_append]
    rw [sif_pos (joinsT (by simp [leB_len]))]
    have hpre : (leB 2 1 ++ leB (ks.length : Int) 1).length = 2 := by simp [leB_len]
    generalize leB 2 1 ++ leB (ks.length : Int) 1 = pre at hp hpre
    have h16 := loop_to ks.length (fun i out => spec_l15Encode_l16 out (i : Int) false ch ks kd) (fun _ _ => some (toB (pad64 (pre ++ encP kd ++ encP ks)))) (fun i out => out = toB (pre ++ encP kd ++ encP (ks.take i))) (fun out ho => by
        rw [spec_l15Encode_l16_eq, sif_f (by omega), ho, List.take_length, hp, sbind_some])
      (fun i out hi ho ih => by
        have f1 := spec_l01Bytes_some ks[i] 2 (by omega)
        rw [spec_l15Encode_l16_eq, sif_t (by omega), idx_nat, List.getElem?_eq_getElem hi, sbind_some, show spec_l01Bytes ks[i] 2 = _ from f1, sbind_some, ho, sif_pos (joinsT (by simp only [List.length_append, leB_len, encP_len, List.length_take]; omega)), toB_append, wi64_add1 (by omega)]
        refine ih _ ?_
        rw [encP_succ hi, List.append_assoc (pre ++ encP kd)]) 0 (toB (pre ++ encP kd)) (by omega) (by simp [encP])
    have h12 := loop_to kd.length (fun i out => spec_l15Encode_l12 out (i : Int) false ch ks kd) (fun _ _ => some (toB (pad64 (pre ++ encP kd ++ encP ks)))) (fun i out => out = toB (pre ++ encP (kd.take i))) (fun out ho => by
        rw [spec_l15Encode_l12_eq, sif_f (by omega), ho, List.take_length]; exact h16)
      (fun i out hi ho ih => by
        have f1 := spec_l01Bytes_some kd[i] 2 (by omega)
        rw [spec_l15Encode_l12_eq, sif_t (by omega), idx_nat, List.getElem?_eq_getElem hi, sbind_some, show spec_l01Bytes kd[i] 2 = _ from f1, sbind_some, ho, sif_pos (joinsT (by simp only [List.length_append, leB_len, encP_len, List.length_take]; omega)), toB_append, wi64_add1 (by omega)]
        refine ih _ ?_
        rw [encP_succ hi, List.append_assoc]) 0 (toB pre) (by omega) (by simp [encP])
    exact h12
  | true =>
    rw [vN_leaf] at hv
    obtain ⟨_, _, a1, _, _⟩ := hv
    have e1 := spec_l01Bytes_some 1 1 (by omega); have e2 := spec_l01Bytes_some (ch.length : Int) 1 (by omega)
    have hp := spec_pad_some (bodyN true ch ks kd) hlen
    unfold bodyN at hp ⊢
    rw [if_pos rfl] at hp ⊢
    rw [sif_true, show spec_l01Bytes 1 1 = _ from e1, show spec_l01Bytes (ch.length : Int) 1 = _ from e2]
    simp only [sbind_some, toB_append]
    rw [sif_pos (joinsT (by simp [leB_len]))]
    have hpre : (leB 1 1 ++ leB (ch.length : Int) 1).length = 2 := by simp [leB_len]
    generalize leB 1 1 ++ leB (ch.length : Int) 1 = pre at hp hpre
    have := loop_to ch.length (fun i out => spec_l15Encode_l5 out (i : Int) true ch ks kd) (fun _ _ => some (toB (pad64 (pre ++ ch.flatMap encC)))) (fun i out => out = toB (pre ++ (ch.take i).flatMap encC)) (fun out ho => by
        rw [spec_l15Encode_l5_eq, sif_f (by omega), ho, List.take_length, hp, sbind_some])
      (fun i out hi ho ih => by
        have f1 := spec_l01Bytes_some ch[i].1 2 (by omega); have f2 := spec_l01Bytes_some ch[i].2.1 2 (by omega); have f3 := spec_l01Bytes_some ch[i].2.2.1 2 (by omega); have f4 := spec_l01Bytes_some ch[i].2.2.2 1 (by omega)
        have hfi := flatC_len (ch.take i)
        rw [List.length_take] at hfi
        rw [spec_l15Encode_l5_eq, sif_t (by omega), idx_nat, List.getElem?_eq_getElem hi, sbind_some, show spec_l01Bytes ch[i].1 2 = _ from f1, show spec_l01Bytes ch[i].2.1 2 = _ from f2, show spec_l01Bytes ch[i].2.2.1 2 = _ from f3, show spec_l01Bytes ch[i].2.2.2 1 = _ from f4]
        simp only [sbind_some, toB_append]
        rw [sif_pos (joinsT (by simp [leB_len])), sif_pos (joinsT (by simp [leB_len])), sif_pos (joinsT (by simp [leB_len])), ho, sif_pos (joinsT (by simp only [List.length_append, leB_len]; omega)), toB_append, wi64_add1 (by omega)]
        refine ih _ ?_
        rw [List.take_succ_eq_append_getElem hi, List.flatMap_append]
        simp [encC]) 0 (toB pre) (by omega) (by simp)
    simpa using this
/-! srcL -/
theorem wu8_inB (n : Int) : 0 ≤ wu8 n ∧ wu8 n ≤ 255 := by rw [wu8_def]; omega
theorem toB_len (l : List Int) : (toB l).size = l.length := toB_size l
/-! srcM -/
/-! srcA -/
/-! headerL -/
abbrev Msg := Int × Int × ByteArray
theorem inB_tail {x : Int} {r : List Int} (h : inB (x :: r)) : inB r := fun y hy => h y (by simp [hy])
theorem bs_nil : bs [] = toB [] := rfl
theorem byte_cons {x : Int} {r : List Int} (h : inB (x :: r)) (hn : r.length ≤ 1048000) (bad : Bool) : impl_decoder_byte_w (toB (x :: r)) bad = some (x, toB r, bad) := by
  have e : impl_decoder_number_w 1 (toB (x :: r)) bad = _ := impl_number_some (x :: r) h 1 (by omega) (by simp) (by simp; omega) bad
  have hx := h x (by simp)
  rw [impl_decoder_byte_w_eq, e, sbind_some]
  show some (wi64 (x + 256 * 0), toB r, bad) = _
  rw [wi64_id (by omega) (by omega)]
  congr 2; omega
theorem take_fail (l : List Int) (n : Int) (h0 : 0 ≤ n) (hn : (l.length : Int) < n) (h1 : n ≤ 1048576) (bad : Bool) : impl_decoder_take_w n (toB l) bad = some (bs [], toB l, true) := by
  rw [impl_decoder_take_w_eq, impl_cut_eq, toB_size, sif_f (by omega), impl_within_inr, sbind_some, wi64_id (by omega) (by omega), show inr 0 0 ((l.length : Int) - n) = false by rw [← Bool.not_eq_true, inr_iff]; omega, Bool.not_false, sif_true, sbind_some]
  dsimp only
  rw [Bool.not_false, sif_true]
theorem getBits_nil : impl_getBits (bs []) = some 0 := by
  rw [bs_nil, impl_getBits_some [] (fun x hx => by cases hx) (by simp)]; rfl
theorem number_fail (l : List Int) (n : Int) (h0 : 0 ≤ n) (hn : (l.length : Int) < n) (h1 : n ≤ 1048576) (bad : Bool) : impl_decoder_number_w n (toB l) bad = some (0, toB l, true) := by
  rw [impl_decoder_number_w_eq, take_fail l n h0 hn h1 bad, sbind_some]
  dsimp only
  rw [getBits_nil, sbind_some, wi64_id (by omega) (by omega)]
theorem byte_nil (bad : Bool) : impl_decoder_byte_w (toB []) bad = some (0, toB [], true) := by
  rw [impl_decoder_byte_w_eq, number_fail [] 1 (by omega) (by simp) (by omega) bad, sbind_some]
theorem take_ok (l : List Int) (n : Int) (h0 : 0 ≤ n) (hn : n ≤ l.length) (h1 : l.length ≤ 1048576) (bad : Bool) : impl_decoder_take_w n (toB l) bad = some (toB (l.take n.toNat), toB (l.drop n.toNat), bad) := by
  rw [impl_decoder_take_w_eq, impl_cut_eq, toB_size, sif_f (by omega), impl_within_inr, sbind_some, wi64_id (n := (l.length : Int) - n) (by omega) (by omega), show inr 0 0 ((l.length : Int) - n) = true by rw [inr_iff]; omega, Bool.not_true, sif_false, wi64_id (n := 0 + n) (by omega) (by omega), sif_pos (le3_ok (by omega) (by omega)), sif_pos (le3_ok (by omega) (by omega)), sbind_some]
  dsimp only
  rw [Bool.not_true, sif_false, sif_pos (le3_ok (by omega) (by omega)), extract_toB, extract_toB, List.take_length, show (0 + n).toNat = n.toNat by omega, show (0 : Int).toNat = 0 from rfl, List.drop_zero]
def okMsg (m : Msg) : Bool := inr m.1 1 9 && (inr m.2.1 0 255 && decide ((m.2.2.size : Int) ≤ 200))
def vH (k r : Int) (ms : List Msg) : Bool := inr k 1 3 && (inr r 0 1000 && (decide ((ms.length : Int) ≤ 24) && ms.all okMsg))
def encMsg (m : Msg) : List Int := leB m.1 1 ++ leB m.2.1 1 ++ leB (m.2.2.size : Int) 1 ++ ofB m.2.2
def encH (k r : Int) (ms : List Msg) : List Int := leB k 1 ++ leB r 2 ++ leB (ms.length : Int) 1 ++ ms.flatMap encMsg
theorem encMsg_in (m : Msg) : inB (encMsg m) := inB_append (inB_append (inB_append (leB_in _ _) (leB_in _ _)) (leB_in _ _)) (ofB_inB _)
theorem encMsg_len (m : Msg) : (encMsg m).length = 3 + m.2.2.size := by simp [encMsg, leB_len, ofB_len]; omega
theorem flat_in (ms : List Msg) : inB (ms.flatMap encMsg) := fun x hx => by
  obtain ⟨m, _, h⟩ := List.mem_flatMap.1 hx
  exact encMsg_in m x h
theorem encH_in (k r : Int) (ms : List Msg) : inB (encH k r ms) := inB_append (inB_append (inB_append (leB_in _ _) (leB_in _ _)) (leB_in _ _)) (flat_in ms)
theorem flat_len {ms : List Msg} (h : ∀ m ∈ ms, m.2.2.size ≤ 200) : (ms.flatMap encMsg).length ≤ ms.length * 203 := by
  induction ms with
  | nil => simp
  | cons m ms ih =>
    have := ih (fun x hx => h x (by simp [hx])); have h1 := h m (by simp)
    rw [List.flatMap_cons, List.length_append, encMsg_len, List.length_cons]; omega
theorem okMsg_size {m : Msg} (h : okMsg m = true) : m.2.2.size ≤ 200 := by
  unfold okMsg at h
  simp only [Bool.and_eq_true, decide_eq_true_eq] at h
  omega
theorem vH_iff {k r : Int} {ms : List Msg} : vH k r ms = true ↔ (1 ≤ k ∧ k ≤ 3) ∧ (0 ≤ r ∧ r ≤ 1000) ∧ (ms.length : Int) ≤ 24 ∧ ∀ m ∈ ms, okMsg m = true := by
  unfold vH
  simp only [Bool.and_eq_true, inr_iff, decide_eq_true_eq, List.all_eq_true]
/-! nodeD -/
abbrev NR := Bool × Bool × List Chk × List Int × List Int
def noN : NR := (false, false, [], [], [])
open Classical in
noncomputable def finN (l : List Int) (leaf : Bool) (ch : List Chk) (ks kd : List Int) : NR := if vN leaf ch ks kd = true ∧ encN leaf ch ks kd = l then (leaf, true, ch, ks, kd) else noN
def GoodN (l : List Int) (r : NR) : Prop := r = noN ∨ (r.2.1 = true ∧ vN r.1 r.2.2.1 r.2.2.2.1 r.2.2.2.2 = true ∧ encN r.1 r.2.2.1 r.2.2.2.1 r.2.2.2.2 = l)
theorem finN_good (l : List Int) (leaf : Bool) (ch : List Chk) (ks kd : List Int) : GoodN l (finN l leaf ch ks kd) := by
  unfold finN
  by_cases h : vN leaf ch ks kd = true ∧ encN leaf ch ks kd = l
  · rw [if_pos h]; exact .inr ⟨rfl, h.1, h.2⟩
  · rw [if_neg h]; exact .inl rfl
theorem finN_ok {leaf : Bool} {ch : List Chk} {ks kd : List Int} (hv : vN leaf ch ks kd = true) : finN (encN leaf ch ks kd) leaf ch ks kd = (leaf, true, ch, ks, kd) := by
  unfold finN; rw [if_pos ⟨hv, rfl⟩]
theorem encN_in (leaf : Bool) (ch : List Chk) (ks kd : List Int) : inB (encN leaf ch ks kd) := pad64_in (bodyN_in _ _ _ _)
theorem exit_impl {l : List Int} (hl : inB l) (leaf : Bool) (ch : List Chk) (ks kd : List Int) (h1 : ch.length ≤ 1048576) (h2 : ks.length ≤ 1048576) (h3 : kd.length ≤ 1048576) : (sbind (impl_ValidNode leaf ch ks kd) fun r1 => sif (!r1) (some noN) <| sbind (impl_Node_encode leaf ch ks kd) fun r2 => sif (!seq r2 (toB l)) (some noN) (some (leaf, true, ch, ks, kd))) = some (finN l leaf ch ks kd) := by
  rw [impl_ValidNode_some _ _ _ _ h1 h2 h3, sbind_some]
  unfold finN
  cases hv : vN leaf ch ks kd with
  | false => rw [if_neg (fun h => by cases h.1)]; rfl
  | true =>
    rw [Bool.not_true, sif_false, impl_encode_node hv, sbind_some, seq_toB (encN_in _ _ _ _) hl]
    by_cases he : encN leaf ch ks kd = l
    · rw [decide_eq_true he, if_pos ⟨rfl, he⟩]; rfl
    · rw [decide_eq_false he, if_neg (fun h => he h.2)]; rfl
theorem num_any (k : Nat) (hk : k ≤ 8) (l : List Int) (hl : inB l) (hn : l.length ≤ 1000) (bad : Bool) : ∃ x l' b', impl_decoder_number_w (k : Int) (toB l) bad = some (x, toB l', b') ∧ inB l' ∧ l'.length ≤ l.length := by
  by_cases h : k ≤ l.length
  · exact ⟨_, _, _, impl_number_some l hl k hk h (by omega) bad, inB_drop hl k, by rw [List.length_drop]; omega⟩
  · exact ⟨_, _, _, number_fail l k (by omega) (by omega) (by omega) bad, hl, Nat.le_refl _⟩
theorem byte_any (l : List Int) (hl : inB l) (hn : l.length ≤ 1000) (bad : Bool) : ∃ x l' b', impl_decoder_byte_w (toB l) bad = some (x, toB l', b') ∧ inB l' ∧ l'.length ≤ l.length := by
  obtain ⟨x, l', b', e, h⟩ := num_any 1 (by omega) l hl hn bad
  refine ⟨x, l', b', ?_, h⟩
  rw [impl_decoder_byte_w_eq, show impl_decoder_number_w 1 (toB l) bad = _ from e, sbind_some]
theorem pairs_any (n : Nat) : ∀ (i : Nat) (l : List Int) (bad : Bool) (out : List Int), inB l → l.length ≤ 1000 → out.length + n ≤ 1000 → i + n ≤ 1000 → ∃ l' b' out', impl_decoder_pairs_w_l3 ((i + n : Nat) : Int) (i : Int) (toB l) bad out = some (toB l', b', out') ∧ inB l' ∧ l'.length ≤ l.length ∧ out'.length = out.length + n := by
  induction n with
  | zero =>
    intro i l bad out hl hn ho hi
    rw [impl_decoder_pairs_w_l3_eq, sif_f (by omega)]
    exact ⟨_, _, _, rfl, hl, Nat.le_refl _, rfl⟩
  | succ n ih =>
    intro i l bad out hl hn ho hi
    obtain ⟨x, l1, b1, e1, h1, h2⟩ := num_any 2 (by omega) l hl hn bad
    obtain ⟨l2, b2, o2, e2, g1, g2, g3⟩ := ih (i + 1) l1 b1 (out ++ [x]) h1 (by omega) (by simp; omega) (by omega)
    rw [impl_decoder_pairs_w_l3_eq, sif_t (by omega), show impl_decoder_number_w 2 (toB l) bad = _ from e1, sbind_some, sif_pos (room_ok (by omega)), wi64_add1 (by omega)]
    rw [show i + 1 + n = i + (n + 1) by omega] at e2
    exact ⟨l2, b2, o2, e2, g1, by omega, by rw [g3]; simp; omega⟩
theorem dec_l8_any {l : List Int} (hl : inB l) (leaf tl : Bool) (tc : List Chk) (tk td ks kd : List Int) (hks : ks.length ≤ 1000) (hkd : kd.length ≤ 1000) (n : Nat) : ∀ (i : Nat) (m : List Int) (bad : Bool) (ch : List Chk), inB m → m.length ≤ 1000 → ch.length + n ≤ 1000 → i + n ≤ 1000 →
    ∃ r, impl_DecodeNode_l8 (toB l) ((i + n : Nat) : Int) (i : Int) tl (toB m) bad leaf tc tk td ch ks kd = some r ∧ GoodN l r := by
  have fin : ∀ (bad : Bool) (ch : List Chk), ch.length ≤ 1000 → ∃ r, (sif bad (some noN) <| (sbind (impl_ValidNode leaf ch ks kd) fun r1 => sif (!r1) (some noN) <| sbind (impl_Node_encode leaf ch ks kd) fun r2 => sif (!seq r2 (toB l)) (some noN) (some (leaf, true, ch, ks, kd)))) = some r ∧ GoodN l r := fun bad ch hc => by
    cases bad with
    | true => exact ⟨_, rfl, .inl rfl⟩
    | false => rw [sif_false, exit_impl hl _ _ _ _ (by omega) (by omega) (by omega)]; exact ⟨_, rfl, finN_good _ _ _ _ _⟩
  induction n with
  | zero =>
    intro i m bad ch hm hmn hc hi
    rw [impl_DecodeNode_l8_eq, sif_f (by omega)]
    exact fin bad ch (by omega)
  | succ n ih =>
    intro i m bad ch hm hmn hc hi
    rw [impl_DecodeNode_l8_eq, sif_t (by omega)]
    cases bad with
    | true => rw [Bool.not_true, sif_false]; exact fin true ch (by omega)
    | false =>
      obtain ⟨x1, m1, b1, e1, h1, g1⟩ := num_any 2 (by omega) m hm hmn false
      obtain ⟨x2, m2, b2, e2, h2, g2⟩ := num_any 2 (by omega) m1 h1 (by omega) b1
      obtain ⟨x3, m3, b3, e3, h3, g3⟩ := num_any 2 (by omega) m2 h2 (by omega) b2
      obtain ⟨x4, m4, b4, e4, h4, g4⟩ := byte_any m3 h3 (by omega) b3
      obtain ⟨r, e5, h5⟩ := ih (i + 1) m4 b4 (ch ++ [(x1, x2, x3, x4)]) h4 (by omega) (by simp; omega) (by omega)
      rw [show i + 1 + n = i + (n + 1) by omega] at e5
      rw [Bool.not_false, sif_true, show impl_decoder_number_w 2 (toB m) false = _ from e1, sbind_some]
      dsimp only
      rw [show impl_decoder_number_w 2 (toB m1) b1 = _ from e2, sbind_some]
      dsimp only
      rw [show impl_decoder_number_w 2 (toB m2) b2 = _ from e3, sbind_some]
      dsimp only
      rw [e4, sbind_some, sif_pos (room_ok (by omega)), wi64_add1 (by omega)]
      exact ⟨r, e5, h5⟩
theorem impl_DecodeNode_any (l : List Int) (hl : inB l) (hn : l.length ≤ 1048576) : ∃ r, impl_DecodeNode (toB l) = some r ∧ GoodN l r := by
  rw [impl_DecodeNode_eq, impl_isBlock_eq, sbind_some, toB_size]
  by_cases h64 : l.length = 64
  · rw [show ((l.length : Int) == 64) = true by rw [beq_iff_eq]; omega, Bool.not_true, sif_false]
    match l, h64, hl with
    | a :: b :: m, h64, hl =>
      have ha := hl a (by simp); have hb := hl b (by simp)
      have hm : inB m := inB_tail (inB_tail hl)
      have hlen : m.length = 62 := by simp at h64; omega
      obtain ⟨n, rfl⟩ : ∃ n : Nat, b = n := ⟨b.toNat, by omega⟩
      rw [byte_cons hl (by simp; omega), sbind_some]
      dsimp only
      rw [byte_cons (inB_tail hl) (by omega), sbind_some]
      dsimp only
      cases hk : (a == 1) with
      | true =>
        rw [sif_true]
        have := dec_l8_any hl true false [] [] [] [] [] (by simp) (by simp) n 0 m false [] hm (by omega) (by simp; omega) (by omega)
        rw [Nat.zero_add] at this
        exact this
      | false =>
        rw [sif_false, wi64_add1 (by omega), impl_decoder_pairs_w_eq]
        obtain ⟨l1, b1, o1, e1, g1, g2, g3⟩ := pairs_any (n + 1) 0 m false [] hm (by omega) (by simp; omega) (by omega)
        rw [Nat.zero_add] at e1
        obtain ⟨l2, b2, o2, e2, f1, f2, f3⟩ := pairs_any n 0 l1 b1 [] g1 (by omega) (by simp; omega) (by omega)
        rw [Nat.zero_add] at e2
        rw [show impl_decoder_pairs_w_l3 ((n + 1 : Nat) : Int) 0 (toB m) false [] = _ from e1, sbind_some]
        dsimp only
        rw [impl_decoder_pairs_w_eq, show impl_decoder_pairs_w_l3 (n : Int) 0 (toB l1) b1 [] = _ from e2, sbind_some]
        dsimp only
        cases b2 with
        | true => exact ⟨_, rfl, .inl rfl⟩
        | false =>
          rw [sif_false]
          have := exit_impl hl false [] o2 o1 (by simp) (by simp at f3; omega) (by simp at g3; omega)
          exact ⟨_, this, finN_good _ _ _ _ _⟩
  · rw [show ((l.length : Int) == 64) = false by rw [beq_eq_false_iff_ne]; omega]
    exact ⟨_, rfl, .inl rfl⟩
theorem num_leB (k : Nat) (hk : k ≤ 7) (n : Int) (h0 : 0 ≤ n) (h1 : n < 256 ^ k) (r : List Int) (hr : inB r) (hn : r.length ≤ 1000) (bad : Bool) : impl_decoder_number_w (k : Int) (toB (leB n k ++ r)) bad = some (n, toB r, bad) := by
  have e := impl_number_some (leB n k ++ r) (inB_append (leB_in _ _) hr) k (by omega) (by rw [List.length_append, leB_len]; omega) (by rw [List.length_append, leB_len]; omega) bad
  have h7 : (256 : Int) ^ k ≤ 256 ^ 7 := by
    have : (256 : Nat) ^ k ≤ 256 ^ 7 := Nat.pow_le_pow_right (by decide) hk
    exact_mod_cast this
  rw [List.take_left' (leB_len n k), List.drop_left' (leB_len n k), leN_leB k n h0 h1, wi64_id (by omega) (by omega)] at e
  exact e
theorem byte_leB (n : Int) (h0 : 0 ≤ n) (h1 : n ≤ 255) (r : List Int) (hr : inB r) (hn : r.length ≤ 1000) (bad : Bool) : impl_decoder_byte_w (toB (leB n 1 ++ r)) bad = some (n, toB r, bad) := by
  rw [impl_decoder_byte_w_eq, show impl_decoder_number_w 1 (toB (leB n 1 ++ r)) bad = _ from num_leB 1 (by omega) n h0 (by omega) r hr hn bad, sbind_some]
theorem pairs_enc (l : List Int) (hv : ∀ n ∈ l, 0 ≤ n ∧ n ≤ 65535) (h7 : l.length ≤ 8) (r : List Int) (hr : inB r) (hn : r.length ≤ 500) (bad : Bool) : impl_decoder_pairs_w (l.length : Int) (toB (encP l ++ r)) bad = some (toB r, bad, l) := by
  rw [impl_decoder_pairs_w_eq]
  have key : ∀ n i, l.length = i + n → impl_decoder_pairs_w_l3 (l.length : Int) (i : Int) (toB (encP (l.drop i) ++ r)) bad (l.take i) = some (toB r, bad, l) := by
    intro n
    induction n with
    | zero =>
      intro i hi
      rw [impl_decoder_pairs_w_l3_eq, sif_f (by omega), List.drop_of_length_le (by omega), List.take_of_length_le (by omega)]; rfl
    | succ n ih =>
      intro i hi
      have hlt : i < l.length := by omega
      have hx := hv l[i] (List.getElem_mem hlt)
      have hd : encP (l.drop i) ++ r = leB l[i] 2 ++ (encP (l.drop (i + 1)) ++ r) := by
        rw [List.drop_eq_getElem_cons hlt]; simp only [encP, List.flatMap_cons, List.append_assoc]
      have e := num_leB 2 (by omega) l[i] hx.1 (by omega) (encP (l.drop (i + 1)) ++ r) (inB_append (encP_in _) hr) (by rw [List.length_append, encP_len, List.length_drop]; omega) bad
      rw [impl_decoder_pairs_w_l3_eq, sif_t (by omega), hd, show impl_decoder_number_w 2 (toB (leB l[i] 2 ++ (encP (l.drop (i + 1)) ++ r))) bad = _ from e, sbind_some, sif_pos (room_ok (by rw [List.length_take]; omega)), wi64_add1 (by omega)]
      dsimp only
      rw [← List.take_succ_eq_append_getElem hlt]
      exact ih (i + 1) (by omega)
  have := key l.length 0 (by omega)
  simpa using this
theorem okC_iff {c : Chk} : okC c = true ↔ (0 ≤ c.1 ∧ c.1 ≤ 65535) ∧ (1 ≤ c.2.1 ∧ c.2.1 ≤ 255) ∧ (0 ≤ c.2.2.1 ∧ c.2.2.1 ≤ 65535) ∧ (0 ≤ c.2.2.2 ∧ c.2.2.2 ≤ 255) := by
  unfold okC
  simp only [Bool.and_eq_true, inr_iff]
theorem impl_dec_enc {leaf : Bool} {ch : List Chk} {ks kd : List Int} (hv : vN leaf ch ks kd = true) : impl_DecodeNode (toB (encN leaf ch ks kd)) = some (leaf, true, ch, ks, kd) := by
  have hE := encN_in leaf ch ks kd
  have h64 : (encN leaf ch ks kd).length = 64 := pad64_len (bodyN_len hv)
  have hfin := finN_ok hv
  have hlen := bodyN_len hv
  have hz : ∀ k, inB (List.replicate k (0 : Int)) := zeros_in
  generalize hl : encN leaf ch ks kd = l at hE h64 hfin
  rw [impl_DecodeNode_eq, impl_isBlock_eq, sbind_some, toB_size, show ((l.length : Int) == 64) = true by rw [beq_iff_eq]; omega, Bool.not_true, sif_false]
  have hb : ∀ a b (m : List Int), bodyN leaf ch ks kd = leB a 1 ++ leB b 1 ++ m → l = leB a 1 ++ (leB b 1 ++ (m ++ List.replicate (64 - (bodyN leaf ch ks kd).length) 0)) := fun a b m h => by
    rw [← hl]; unfold encN pad64; rw [h]; simp
  cases leaf with
  | true =>
    rw [vN_leaf] at hv
    obtain ⟨rfl, rfl, a1, _, a2⟩ := hv
    have hl' := hb 1 (ch.length : Int) (ch.flatMap encC) (by unfold bodyN; rw [if_pos rfl])
    generalize 64 - (bodyN true ch [] []).length = z at hl'
    have hzz : z ≤ 64 := by rw [hl'] at h64; simp [leB_len] at h64; omega
    have hfl := flatC_len ch
    have e1 : impl_decoder_byte_w (toB l) false = some (1, toB (leB (ch.length : Int) 1 ++ (ch.flatMap encC ++ List.replicate z 0)), false) := by
      rw [hl']; exact byte_leB 1 (by omega) (by omega) _ (inB_append (leB_in _ _) (inB_append (flatC_in _) (hz _))) (by simp [leB_len, hfl]; omega) false
    rw [e1, sbind_some]
    dsimp only
    rw [byte_leB (ch.length : Int) (by omega) (by omega) _ (inB_append (flatC_in _) (hz _)) (by simp [hfl]; omega), sbind_some, show ((1 : Int) == 1) = true from rfl, sif_true]
    dsimp only
    have key : ∀ n i, ch.length = i + n → impl_DecodeNode_l8 (toB l) (ch.length : Int) (i : Int) false (toB ((ch.drop i).flatMap encC ++ List.replicate z 0)) false true [] [] [] (ch.take i) [] [] = some (true, true, ch, [], []) := by
      intro n
      induction n with
      | zero =>
        intro i hi
        rw [impl_DecodeNode_l8_eq, sif_f (by omega), sif_false, List.take_of_length_le (by omega)]
        exact (exit_impl hE true ch [] [] (by omega) (by simp) (by simp)).trans (by rw [hfin])
      | succ n ih =>
        intro i hi
        have hlt : i < ch.length := by omega
        have hx := okC_iff.1 (a2 ch[i] (List.getElem_mem hlt))
        have hin : inB ((ch.drop (i + 1)).flatMap encC ++ List.replicate z 0) := inB_append (flatC_in _) (hz _)
        have hll : ((ch.drop (i + 1)).flatMap encC ++ List.replicate z 0).length ≤ 200 := by
          rw [List.length_append, flatC_len, List.length_drop, List.length_replicate]; omega
        have hd : (ch.drop i).flatMap encC ++ List.replicate z 0 = leB ch[i].1 2 ++ (leB ch[i].2.1 2 ++ (leB ch[i].2.2.1 2 ++ (leB ch[i].2.2.2 1 ++ ((ch.drop (i + 1)).flatMap encC ++ List.replicate z 0)))) := by
          rw [List.drop_eq_getElem_cons hlt]; simp only [encC, List.flatMap_cons, List.append_assoc]
        rw [impl_DecodeNode_l8_eq, sif_t (by omega), Bool.not_false, sif_true, hd]
        have ih' := ih (i + 1) (by omega)
        generalize (ch.drop (i + 1)).flatMap encC ++ List.replicate z 0 = rest at hin hll ih'
        have f1 := num_leB 2 (by omega) ch[i].1 (by omega) (by omega) (leB ch[i].2.1 2 ++ (leB ch[i].2.2.1 2 ++ (leB ch[i].2.2.2 1 ++ rest))) (inB_append (leB_in _ _) (inB_append (leB_in _ _) (inB_append (leB_in _ _) hin))) (by simp [leB_len]; omega) false
        have f2 := num_leB 2 (by omega) ch[i].2.1 (by omega) (by omega) (leB ch[i].2.2.1 2 ++ (leB ch[i].2.2.2 1 ++ rest)) (inB_append (leB_in _ _) (inB_append (leB_in _ _) hin)) (by simp [leB_len]; omega) false
        have f3 := num_leB 2 (by omega) ch[i].2.2.1 (by omega) (by omega) (leB ch[i].2.2.2 1 ++ rest) (inB_append (leB_in _ _) hin) (by simp [leB_len]; omega) false
        have f4 := byte_leB ch[i].2.2.2 (by omega) (by omega) rest hin (by omega) false
        rw [show impl_decoder_number_w 2 (toB (leB ch[i].1 2 ++ _)) false = _ from f1, sbind_some]
        dsimp only
        rw [show impl_decoder_number_w 2 (toB (leB ch[i].2.1 2 ++ _)) false = _ from f2, sbind_some]
        dsimp only
        rw [show impl_decoder_number_w 2 (toB (leB ch[i].2.2.1 2 ++ _)) false = _ from f3, sbind_some]
        dsimp only
        rw [f4, sbind_some, sif_pos (room_ok (by rw [List.length_take]; omega)), wi64_add1 (by omega)]
        dsimp only
        rw [show ch.take i ++ [(ch[i].1, ch[i].2.1, ch[i].2.2.1, ch[i].2.2.2)] = ch.take (i + 1) from (List.take_succ_eq_append_getElem hlt).symm]
        exact ih'
    have := key ch.length 0 (by omega)
    simpa using this
  | false =>
    rw [vN_inner] at hv
    obtain ⟨rfl, ⟨a1, a2⟩, _, a3, a4, a5⟩ := hv
    have hl' := hb 2 (ks.length : Int) (encP kd ++ encP ks) (by unfold bodyN; rw [if_neg (by decide)]; simp)
    generalize 64 - (bodyN false [] ks kd).length = z at hl'
    have hzz : z ≤ 64 := by rw [hl'] at h64; simp [leB_len] at h64; omega
    have hin : inB (encP kd ++ encP ks ++ List.replicate z 0) := inB_append (inB_append (encP_in _) (encP_in _)) (hz _)
    have hll : (encP kd ++ encP ks ++ List.replicate z 0).length ≤ 200 := by
      rw [List.length_append, List.length_append, encP_len, encP_len, List.length_replicate]; omega
    have e1 : impl_decoder_byte_w (toB l) false = some (2, toB (leB (ks.length : Int) 1 ++ (encP kd ++ encP ks ++ List.replicate z 0)), false) := by
      rw [hl']; exact byte_leB 2 (by omega) (by omega) _ (inB_append (leB_in _ _) hin) (by rw [List.length_append, leB_len]; omega) false
    rw [e1, sbind_some]
    dsimp only
    rw [byte_leB (ks.length : Int) (by omega) (by omega) _ hin (by omega), sbind_some, show ((2 : Int) == 1) = false from rfl, sif_false]
    dsimp only
    have ek : wi64 ((ks.length : Int) + 1) = (kd.length : Int) := by rw [wi64_id (by omega) (by omega)]; omega
    rw [ek, List.append_assoc, pairs_enc kd (fun n hn => by have := a5 n hn; omega) (by omega) (encP ks ++ List.replicate z 0) (inB_append (encP_in _) (hz _)) (by rw [List.length_append, encP_len, List.length_replicate]; omega), sbind_some]
    dsimp only
    rw [pairs_enc ks a3 (by omega) (List.replicate z 0) (hz _) (by simp; omega), sbind_some]
    dsimp only
    rw [sif_false]
    exact (exit_impl hE false [] ks kd (by simp) (by omega) (by omega)).trans (by rw [hfin])
/-! nodeT -/
theorem exit_spec {l : List Int} (hl : inB l) (leaf : Bool) (ch : List Chk) (ks kd : List Int) (h1 : ch.length ≤ 1048576) (h2 : ks.length ≤ 1048576) (h3 : kd.length ≤ 1048576) : (sbind (spec_l15Node leaf ch ks kd) fun r1 => sif (!r1) (some noN) <| sbind (spec_l15Encode leaf ch ks kd) fun r2 => sif (!seq r2 (toB l)) (some noN) (some (leaf, true, ch, ks, kd))) = some (finN l leaf ch ks kd) := by
  rw [spec_l15Node_some _ _ _ _ h1 h2 h3, sbind_some]
  unfold finN
  cases hv : vN leaf ch ks kd with
  | false => rw [if_neg (fun h => by cases h.1)]; rfl
  | true =>
    rw [Bool.not_true, sif_false, spec_encode_node hv, sbind_some, seq_toB (encN_in _ _ _ _) hl]
    by_cases he : encN leaf ch ks kd = l
    · rw [decide_eq_true he, if_pos ⟨rfl, he⟩]; rfl
    · rw [decide_eq_false he, if_neg (fun h => he h.2)]; rfl
theorem num_at {l : List Int} (hl : inB l) (h64 : l.length = 64) (a k : Nat) (h1 : 1 ≤ k) (h7 : k ≤ 7) (h : a + k ≤ 64) : spec_l15Num (toB l) (a : Int) (k : Int) = some (leN ((l.drop a).take k)) := by
  rw [spec_l15Num_eq, spec_GetUint_small l hl a k h1 h7 (by omega) (by omega), sbind_some]
theorem dec_l13_leaf {l : List Int} (hl : inB l) (c : Nat) (tl : Bool) (tc : List Chk) (tk td : List Int) (ch : List Chk) (ks kd : List Int) (h1 : ch.length ≤ 1048576) (h2 : ks.length ≤ 1048576) (h3 : kd.length ≤ 1048576) : spec_l15Decode_l13 (toB l) (c : Int) 0 tl true tc tk td ch ks kd = some (finN l true ch ks kd) := by
  rw [spec_l15Decode_l13_eq, sif_t (by omega), Bool.not_true, sif_false]
  exact exit_spec hl true ch ks kd h1 h2 h3
def chAt (l : List Int) (i : Nat) : Chk := (leN ((l.drop (2 + 7 * i)).take 2), leN ((l.drop (2 + 7 * i + 2)).take 2), leN ((l.drop (2 + 7 * i + 4)).take 2), leN ((l.drop (2 + 7 * i + 6)).take 1))
theorem dec_l8_leaf {l : List Int} (hl : inB l) (h64 : l.length = 64) (tl : Bool) (tc : List Chk) (tk td : List Int) (n : Nat) : ∀ (i : Nat) (ch : List Chk), i + n ≤ 8 → ch.length = i →
    spec_l15Decode_l8 (toB l) ((i + n : Nat) : Int) (i : Int) tl true tc tk td ch [] [] = some (finN l true (ch ++ (List.range n).map (fun j => chAt l (i + j))) [] []) := by
  induction n with
  | zero =>
    intro i ch hi hc
    rw [spec_l15Decode_l8_eq, sif_f (by omega), dec_l13_leaf hl _ _ _ _ _ _ _ _ (by omega) (by simp) (by simp)]; simp
  | succ n ih =>
    intro i ch hi hc
    have ea : wi64 (2 + wi64 (7 * (i : Int))) = ((2 + 7 * i : Nat) : Int) := by rw [wi64_id (n := 7 * (i : Int)) (by omega) (by omega), wi64_id (by omega) (by omega)]; omega
    have e2 : wi64 (((2 + 7 * i : Nat) : Int) + 2) = ((2 + 7 * i + 2 : Nat) : Int) := by rw [wi64_id (by omega) (by omega)]; omega
    have e4 : wi64 (((2 + 7 * i : Nat) : Int) + 4) = ((2 + 7 * i + 4 : Nat) : Int) := by rw [wi64_id (by omega) (by omega)]; omega
    have e6 : wi64 (((2 + 7 * i : Nat) : Int) + 6) = ((2 + 7 * i + 6 : Nat) : Int) := by rw [wi64_id (by omega) (by omega)]; omega
    have f1 := num_at hl h64 (2 + 7 * i) 2 (by omega) (by omega) (by omega)
    have f2 := num_at hl h64 (2 + 7 * i + 2) 2 (by omega) (by omega) (by omega)
    have f3 := num_at hl h64 (2 + 7 * i + 4) 2 (by omega) (by omega) (by omega)
    have f4 := num_at hl h64 (2 + 7 * i + 6) 1 (by omega) (by omega) (by omega)
    rw [spec_l15Decode_l8_eq, sif_t (by omega), sif_true, ea, e2, e4, e6, show spec_l15Num (toB l) ((2 + 7 * i : Nat) : Int) 2 = _ from f1, sbind_some, show spec_l15Num (toB l) ((2 + 7 * i + 2 : Nat) : Int) 2 = _ from f2, sbind_some, show spec_l15Num (toB l) ((2 + 7 * i + 4 : Nat) : Int) 2 = _ from f3, sbind_some, show spec_l15Num (toB l) ((2 + 7 * i + 6 : Nat) : Int) 1 = _ from f4, sbind_some, sif_pos (room_ok (by omega)), wi64_add1 (by omega)]
    have := ih (i + 1) (ch ++ [chAt l i]) (by omega) (by simp; omega)
    rw [show i + 1 + n = i + (n + 1) by omega] at this
    refine Eq.trans this ?_
    rw [List.range_succ_eq_map, List.map_cons, List.map_map, List.append_assoc]
    congr 3
    simp only [List.singleton_append, Nat.add_zero, List.cons.injEq, true_and]
    refine List.map_congr_left (fun j _ => ?_)
    show chAt l (i + 1 + j) = chAt l (i + (j + 1))
    congr 1; omega
theorem dec_l13_inner {l : List Int} (hl : inB l) (h64 : l.length = 64) (tl : Bool) (tc : List Chk) (tk td : List Int) (c : Nat) (hc : c ≤ 7) (n : Nat) : ∀ (i : Nat) (ks kd : List Int), i + n = c + 1 → ks.length = min i c → kd.length = i →
    spec_l15Decode_l13 (toB l) (c : Int) (i : Int) tl false tc tk td [] ks kd = some (finN l false [] (ks ++ (List.range (c - i)).map (fun j => leN ((l.drop (4 + 2 * c + 2 * (i + j))).take 2))) (kd ++ (List.range n).map (fun j => leN ((l.drop (2 + 2 * (i + j))).take 2)))) := by
  induction n with
  | zero =>
    intro i ks kd hi hk hd
    rw [spec_l15Decode_l13_eq, sif_f (by omega)]
    refine (exit_spec hl false [] ks kd (by simp) (by omega) (by omega)).trans ?_
    rw [show c - i = 0 by omega]; simp
  | succ n ih =>
    intro i ks kd hi hk hd
    have ea : wi64 (2 + wi64 (2 * (i : Int))) = ((2 + 2 * i : Nat) : Int) := by rw [wi64_id (n := 2 * (i : Int)) (by omega) (by omega), wi64_id (by omega) (by omega)]; omega
    have eb : wi64 (wi64 (4 + wi64 (2 * (c : Int))) + wi64 (2 * (i : Int))) = ((4 + 2 * c + 2 * i : Nat) : Int) := by rw [wi64_id (n := 2 * (i : Int)) (by omega) (by omega), wi64_id (n := 2 * (c : Int)) (by omega) (by omega), wi64_id (n := 4 + 2 * (c : Int)) (by omega) (by omega), wi64_id (by omega) (by omega)]; omega
    have f1 := num_at hl h64 (2 + 2 * i) 2 (by omega) (by omega) (by omega)
    have er : (List.range (n + 1)).map (fun j => leN ((l.drop (2 + 2 * (i + j))).take 2)) = leN ((l.drop (2 + 2 * i)).take 2) :: (List.range n).map (fun j => leN ((l.drop (2 + 2 * (i + 1 + j))).take 2)) := by
      rw [List.range_succ_eq_map, List.map_cons, List.map_map]
      congr 1
      refine List.map_congr_left (fun j _ => ?_)
      show leN ((l.drop (2 + 2 * (i + (j + 1)))).take 2) = _
      rw [show i + (j + 1) = i + 1 + j by omega]
    rw [spec_l15Decode_l13_eq, sif_t (by omega), Bool.not_false, sif_true, ea, eb, show spec_l15Num (toB l) ((2 + 2 * i : Nat) : Int) 2 = _ from f1, sbind_some, sif_pos (room_ok (by omega)), wi64_add1 (by omega), er]
    by_cases hic : i < c
    · have f2 := num_at hl h64 (4 + 2 * c + 2 * i) 2 (by omega) (by omega) (by omega)
      have ek : (List.range (c - i)).map (fun j => leN ((l.drop (4 + 2 * c + 2 * (i + j))).take 2)) = leN ((l.drop (4 + 2 * c + 2 * i)).take 2) :: (List.range (c - (i + 1))).map (fun j => leN ((l.drop (4 + 2 * c + 2 * (i + 1 + j))).take 2)) := by
        rw [show c - i = (c - (i + 1)) + 1 by omega, List.range_succ_eq_map, List.map_cons, List.map_map]
        congr 1
        refine List.map_congr_left (fun j _ => ?_)
        show leN ((l.drop (4 + 2 * c + 2 * (i + (j + 1)))).take 2) = _
        rw [show i + (j + 1) = i + 1 + j by omega]
      rw [sif_t (by omega), show spec_l15Num (toB l) ((4 + 2 * c + 2 * i : Nat) : Int) 2 = _ from f2, sbind_some, sif_pos (room_ok (by omega)), ek]
      refine (ih (i + 1) _ _ (by omega) (by simp; omega) (by simp; omega)).trans ?_
      simp only [List.append_assoc, List.singleton_append]
    · rw [sif_f (by omega)]
      refine (ih (i + 1) _ _ (by omega) (by omega) (by simp; omega)).trans ?_
      rw [show c - (i + 1) = 0 by omega, show c - i = 0 by omega]
      simp only [List.append_assoc, List.singleton_append, List.range_zero, List.map_nil]
open Classical in
noncomputable def decN (l : List Int) : NR :=
  if l.length = 64 then
    if l[0]? = some 1 then if 8 < ((l[1]? : Option Int).getD 0) then noN else finN l true ((List.range ((l[1]? : Option Int).getD 0).toNat).map (fun j => chAt l j)) [] []
    else if l[0]? = some 2 then if 7 < ((l[1]? : Option Int).getD 0) then noN else finN l false [] ((List.range ((l[1]? : Option Int).getD 0).toNat).map (fun j => leN ((l.drop (4 + 2 * ((l[1]? : Option Int).getD 0).toNat + 2 * j)).take 2))) ((List.range (((l[1]? : Option Int).getD 0).toNat + 1)).map (fun j => leN ((l.drop (2 + 2 * j)).take 2)))
    else noN
  else noN
theorem spec_decode_some (l : List Int) (hl : inB l) (hn : l.length ≤ 1048576) : spec_l15Decode (toB l) = some (decN l) := by
  rw [spec_l15Decode_eq, toB_size]
  unfold decN
  by_cases h64 : l.length = 64
  · rw [if_pos h64, show ((l.length : Int) != 64) = false by rw [bne_eq_false_iff_eq]; omega, sif_false, bidx_toB hl (by omega), bidx_toB hl (by omega), show (0 : Int).toNat = 0 from rfl, show (1 : Int).toNat = 1 from rfl]
    have h0 : 0 < l.length := by omega
    have h1 : 1 < l.length := by omega
    have ha := hl _ (List.getElem_mem h0)
    have hb := hl _ (List.getElem_mem h1)
    rw [List.getElem?_eq_getElem h0, List.getElem?_eq_getElem h1]
    generalize l[0] = a at ha
    generalize l[1] = b at hb
    obtain ⟨n, rfl⟩ : ∃ n : Nat, b = n := ⟨b.toNat, by omega⟩
    simp only [sbind_some, Option.getD_some, Option.some.injEq, Int.toNat_natCast]
    rw [wi64_id (n := a) (by omega) (by omega), wi64_id (n := (n : Int)) (by omega) (by omega), spec_l00In_inr, sbind_some]
    by_cases k1 : a = 1
    · subst k1
      rw [if_pos rfl, show inr 1 1 2 = true from rfl, Bool.not_true, sif_false, show ((1 : Int) == 1) = true from rfl, sif_true]
      by_cases hn8 : 8 < (n : Int)
      · rw [if_pos hn8, sif_t (by omega)]; rfl
      · rw [if_neg hn8, sif_f (by omega), Bool.not_true, sif_false]
        have := dec_l8_leaf hl h64 false [] [] [] n 0 [] (by omega) rfl
        rw [Nat.zero_add] at this
        refine Eq.trans this ?_
        simp only [Nat.zero_add, List.nil_append]
    · rw [if_neg k1]
      by_cases k2 : a = 2
      · subst k2
        rw [if_pos rfl, show inr 2 1 2 = true from rfl, Bool.not_true, sif_false, show ((2 : Int) == 1) = false from rfl, sif_false, Bool.not_false, sif_true]
        by_cases hn7 : 7 < (n : Int)
        · rw [if_pos hn7, sif_t (by omega)]; rfl
        · rw [if_neg hn7, sif_f (by omega)]
          have h13 := dec_l13_inner hl h64 false [] [] [] n (by omega) (n + 1) 0 [] [] (by omega) (by simp) rfl
          have e8 : spec_l15Decode_l8 (toB l) (n : Int) 0 false false [] [] [] [] [] [] = spec_l15Decode_l13 (toB l) (n : Int) 0 false false [] [] [] [] [] [] := by
            rw [spec_l15Decode_l8_eq, sif_false, sif_same]
          rw [e8]
          refine Eq.trans h13 ?_
          simp only [Nat.zero_add, List.nil_append, Nat.sub_zero]
      · rw [if_neg k2, show inr a 1 2 = false by rw [← Bool.not_eq_true, inr_iff]; omega]; rfl
  · rw [if_neg h64, show ((l.length : Int) != 64) = true by rw [bne_iff_ne]; omega]; rfl
theorem decN_good (l : List Int) : GoodN l (decN l) := by
  unfold decN
  split
  · split
    · split
      · exact .inl rfl
      · exact finN_good _ _ _ _ _
    · split
      · split
        · exact .inl rfl
        · exact finN_good _ _ _ _ _
      · exact .inl rfl
  · exact .inl rfl
theorem flat_drop (ch : List Chk) (r : List Int) : ∀ i, i ≤ ch.length → (ch.flatMap encC ++ r).drop (7 * i) = (ch.drop i).flatMap encC ++ r := by
  induction ch with
  | nil => intro i hi; have : i = 0 := by simpa using hi
           subst this; rfl
  | cons c ch ih =>
    intro i hi
    cases i with
    | zero => rfl
    | succ i =>
      rw [List.flatMap_cons, List.append_assoc, show 7 * (i + 1) = 7 + 7 * i by omega, ← List.drop_drop, List.drop_left' (encC_len c), ih i (by simpa using hi)]; rfl
theorem encP_drop (l r : List Int) : ∀ i, i ≤ l.length → (encP l ++ r).drop (2 * i) = encP (l.drop i) ++ r := by
  induction l with
  | nil => intro i hi; have : i = 0 := by simpa using hi
           subst this; rfl
  | cons c l ih =>
    intro i hi
    cases i with
    | zero => rfl
    | succ i =>
      have e : encP (c :: l) = leB c 2 ++ encP l := by simp only [encP, List.flatMap_cons]
      rw [e, List.append_assoc, show 2 * (i + 1) = 2 + 2 * i by omega, ← List.drop_drop, List.drop_left' (leB_len c 2), ih i (by simpa using hi)]; rfl
theorem encP_at (l r : List Int) (hv : ∀ n ∈ l, 0 ≤ n ∧ n ≤ 65535) (i : Nat) (hi : i < l.length) : leN (((encP l ++ r).drop (2 * i)).take 2) = l[i] := by
  have hx := hv _ (List.getElem_mem hi)
  rw [encP_drop l r i (by omega), List.drop_eq_getElem_cons hi]
  have e : encP (l[i] :: l.drop (i + 1)) = leB l[i] 2 ++ encP (l.drop (i + 1)) := by simp only [encP, List.flatMap_cons]
  rw [e, List.append_assoc, List.take_left' (leB_len _ 2), leN_leB 2 _ (by omega) (by omega)]
theorem map_range_eq {α : Type} (l : List α) (n : Nat) (f : Nat → α) (hn : l.length = n) (h : ∀ i (hi : i < l.length), f i = l[i]) : (List.range n).map f = l := by
  apply List.ext_getElem
  · simp [hn]
  · intro i h1 h2
    simp only [List.getElem_map, List.getElem_range]
    exact h i h2
theorem decN_enc {leaf : Bool} {ch : List Chk} {ks kd : List Int} (hv : vN leaf ch ks kd = true) : decN (encN leaf ch ks kd) = (leaf, true, ch, ks, kd) := by
  have hfin := finN_ok hv
  have h64 : (encN leaf ch ks kd).length = 64 := pad64_len (bodyN_len hv)
  have hb : ∀ a b (m : List Int), 0 ≤ a → a ≤ 255 → 0 ≤ b → b ≤ 255 → bodyN leaf ch ks kd = leB a 1 ++ leB b 1 ++ m → encN leaf ch ks kd = a :: b :: (m ++ List.replicate (64 - (bodyN leaf ch ks kd).length) 0) := fun a b m ha ha' hb hb' h => by
    have e : ∀ n : Int, 0 ≤ n → n ≤ 255 → leB n 1 = [n] := fun n h0 h1 => by rw [leB_succ, wu8_id h0 h1]; rfl
    unfold encN pad64; rw [h, e a ha ha', e b hb hb']; simp
  unfold decN
  rw [if_pos h64]
  cases leaf with
  | true =>
    rw [vN_leaf] at hv
    obtain ⟨rfl, rfl, a1, _, a2⟩ := hv
    have hl := hb 1 (ch.length : Int) (ch.flatMap encC) (by omega) (by omega) (by omega) (by omega) (by unfold bodyN; rw [if_pos rfl])
    generalize 64 - (bodyN true ch [] []).length = z at hl
    generalize encN true ch [] [] = l at hl hfin h64
    subst hl
    have e0 : (1 :: (ch.length : Int) :: (ch.flatMap encC ++ List.replicate z 0))[0]? = some 1 := rfl
    rw [e0, if_pos rfl]
    have e1 : ((1 :: (ch.length : Int) :: (ch.flatMap encC ++ List.replicate z 0))[1]?).getD 0 = (ch.length : Int) := rfl
    rw [e1, if_neg (by omega), Int.toNat_natCast]
    rw [map_range_eq ch ch.length _ rfl (fun i hi => ?_)]
    · exact hfin
    · have hx := okC_iff.1 (a2 _ (List.getElem_mem hi))
      have hd : (1 :: (ch.length : Int) :: (ch.flatMap encC ++ List.replicate z 0)).drop (2 + 7 * i) = leB ch[i].1 2 ++ (leB ch[i].2.1 2 ++ (leB ch[i].2.2.1 2 ++ (leB ch[i].2.2.2 1 ++ ((ch.drop (i + 1)).flatMap encC ++ List.replicate z 0)))) := by
        rw [← List.drop_drop]
        show (ch.flatMap encC ++ List.replicate z 0).drop (7 * i) = _
        rw [flat_drop ch _ i (by omega), List.drop_eq_getElem_cons hi]
        simp only [encC, List.flatMap_cons, List.append_assoc]
      generalize (ch.drop (i + 1)).flatMap encC ++ List.replicate z 0 = rest at hd
      unfold chAt
      rw [← List.drop_drop (i := 2), ← List.drop_drop (i := 4), ← List.drop_drop (i := 6), hd]
      have d2 : (leB ch[i].1 2 ++ (leB ch[i].2.1 2 ++ (leB ch[i].2.2.1 2 ++ (leB ch[i].2.2.2 1 ++ rest)))).drop 2 = leB ch[i].2.1 2 ++ (leB ch[i].2.2.1 2 ++ (leB ch[i].2.2.2 1 ++ rest)) := List.drop_left' (leB_len _ 2)
      have d4 : (leB ch[i].1 2 ++ (leB ch[i].2.1 2 ++ (leB ch[i].2.2.1 2 ++ (leB ch[i].2.2.2 1 ++ rest)))).drop 4 = leB ch[i].2.2.1 2 ++ (leB ch[i].2.2.2 1 ++ rest) := by
        rw [show 4 = 2 + 2 from rfl, ← List.drop_drop, d2]; exact List.drop_left' (leB_len _ 2)
      have d6 : (leB ch[i].1 2 ++ (leB ch[i].2.1 2 ++ (leB ch[i].2.2.1 2 ++ (leB ch[i].2.2.2 1 ++ rest)))).drop 6 = leB ch[i].2.2.2 1 ++ rest := by
        rw [show 6 = 4 + 2 from rfl, ← List.drop_drop, d4]; exact List.drop_left' (leB_len _ 2)
      rw [d2, d4, d6, List.take_left' (leB_len _ 2), List.take_left' (leB_len _ 2), List.take_left' (leB_len _ 2), List.take_left' (leB_len _ 1), leN_leB 2 _ (by omega) (by omega), leN_leB 2 _ (by omega) (by omega), leN_leB 2 _ (by omega) (by omega), leN_leB 1 _ (by omega) (by omega)]
  | false =>
    rw [vN_inner] at hv
    obtain ⟨rfl, ⟨a1, a2⟩, _, a3, a4, a5⟩ := hv
    have hl := hb 2 (ks.length : Int) (encP kd ++ encP ks) (by omega) (by omega) (by omega) (by omega) (by unfold bodyN; rw [if_neg (by decide)]; simp only [List.append_assoc])
    generalize 64 - (bodyN false [] ks kd).length = z at hl
    generalize encN false [] ks kd = l at hl hfin h64
    subst hl
    have e0 : (2 :: (ks.length : Int) :: (encP kd ++ encP ks ++ List.replicate z 0))[0]? = some 2 := rfl
    have e1 : ((2 :: (ks.length : Int) :: (encP kd ++ encP ks ++ List.replicate z 0))[1]?).getD 0 = (ks.length : Int) := rfl
    rw [e0, e1, if_neg (by simp), if_pos rfl, if_neg (by omega), Int.toNat_natCast]
    rw [map_range_eq ks ks.length _ rfl (fun i hi => ?_), map_range_eq kd (ks.length + 1) _ (by omega) (fun i hi => ?_)]
    · exact hfin
    · rw [← List.drop_drop]
      show leN (((encP kd ++ encP ks ++ List.replicate z 0).drop (2 * i)).take 2) = _
      rw [List.append_assoc]
      exact encP_at kd _ (fun n hn => by have := a5 n hn; omega) i hi
    · rw [show 4 + 2 * ks.length + 2 * i = 2 + (2 * kd.length + 2 * i) by omega, ← List.drop_drop]
      show leN (((encP kd ++ encP ks ++ List.replicate z 0).drop (2 * kd.length + 2 * i)).take 2) = _
      rw [List.append_assoc, ← List.drop_drop, List.drop_left' (encP_len kd)]
      exact encP_at ks _ a3 i hi
theorem decode_same (l : List Int) (hl : inB l) (hn : l.length ≤ 1048576) : impl_DecodeNode (toB l) = some (decN l) := by
  obtain ⟨r, e, h⟩ := impl_DecodeNode_any l hl hn
  rw [e]
  rcases h with h | ⟨h1, h2, h3⟩
  · rcases decN_good l with g | ⟨g1, g2, g3⟩
    · rw [h, g]
    · have := impl_dec_enc g2
      rw [g3, e, h] at this
      injection this with this
      have := congrArg (fun x : NR => x.2.1) this
      cases this
  · have := decN_enc h2
    rw [h3] at this
    rw [this]
    obtain ⟨a, b, c, d, f⟩ := r
    dsimp only at h1
    rw [h1]
/-! FnExactDecodeNode -/
theorem decN_small {l : List Int} : ((decN l).2.2.1.length ≤ 8 ∧ (decN l).2.2.2.1.length ≤ 7 ∧ (decN l).2.2.2.2.length ≤ 8) := by
  rcases decN_good l with h | ⟨h1, h2, h3⟩
  · rw [h]; exact ⟨by simp [noN], by simp [noN], by simp [noN]⟩
  · cases hleaf : (decN l).1 with
    | true => rw [hleaf, vN_leaf] at h2; obtain ⟨g1, g2, g3, _⟩ := h2; rw [g1, g2]; exact ⟨by omega, by simp, by simp⟩
    | false => rw [hleaf, vN_inner] at h2; obtain ⟨g1, g2, _, _, g3, _⟩ := h2; rw [g1]; exact ⟨by simp, by omega, by omega⟩
theorem pure_FnExactDecodeNode (aBlock : ByteArray) (O0 : aBlock.size ≤ 140737488351232) : laws_FnExactDecodeNode aBlock = some true := by
  rw [laws_FnExactDecodeNode_eq]
  by_cases hlen : (aBlock.size : Int) > 1048576
  · rw [sif_t hlen]
  · rw [sif_f hlen]
    have hb := ofB_inB aBlock
    have hsz := ofB_len aBlock
    rw [← toB_ofB aBlock, spec_DecodeNode_eq, spec_decode_some _ hb (by omega), decode_same _ hb (by omega), sbind_some, sbind_some]
    generalize hl : Ve.ofB aBlock = l
    have hs := decN_small (l := l)
    generalize decN l = r at hs
    obtain ⟨leaf, ok, ch, ks, kd⟩ := r
    dsimp only at hs ⊢
    have er := eqNode_refl (leaf, ch, ks, kd) (by unfold bulk_Node; dsimp only; omega)
    obtain ⟨m, y1, y2, y3, e1, e2, h0⟩ := markNode_held (leaf, ch, ks, kd) 1 (by omega) (by omega) (by unfold bulk_Node; dsimp only; omega)
    dsimp only at er e1 e2
    simp only [sbind_some, er, e1, e2, Bool.not_true, sif_false, beq_self_eq_true, bne_self_eq_false]
    rw [sif_f (by omega), sif_f (by omega)]
end Go.Ve.X
