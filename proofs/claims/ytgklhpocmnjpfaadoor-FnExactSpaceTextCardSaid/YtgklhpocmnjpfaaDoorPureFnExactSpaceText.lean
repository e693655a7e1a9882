/- What 'FnExactSpaceText' comes to, in plain words over numbers, texts and lists: each function that it reaches answers what is told; put together, the law answers true. No condition but the sizes that come in. -/
import Derived.Test.YtgklhpocmnjpfaaDoorEqFnExactSpaceText
namespace Go.Ve.X
open Go.Ve
set_option linter.all false
set_option maxRecDepth 100000
theorem szInt64S_some (a : List Int) (left : Int) (hs : a.length ≤ 140737488355328) (h0 : 0 ≤ left) (h1 : left ≤ 1048576) : laws_szInt64S a left = some (if ((a.length : Nat) : Int) ≤ left then left - ((a.length : Nat) : Int) else -1) := by
  have hl : a.length ≤ 140737488355328 := hs
  rw [laws_szInt64S_eq, wi64_id (by omega) (by omega)]
  by_cases c : (a.length : Int) ≤ left
  · rw [if_pos c, sif_f (by omega)]
  · rw [if_neg c, sif_t (by omega)]
def bulk_Space (x : List Int × List Int) : Nat := x.1.length + x.2.length
def sm_Space (x : List Int × List Int) : Prop := (x.1.length ≤ 140737488355328) ∧ (x.2.length ≤ 140737488355328)
theorem szSpace_some (x : List Int × List Int) (left : Int) (hs : sm_Space x) (h0 : 0 ≤ left) (h1 : left ≤ 1048576) : laws_szSpace x.1 x.2 left = some (if ((bulk_Space x : Nat) : Int) ≤ left then left - ((bulk_Space x : Nat) : Int) else -1) := by
  have hb : ((bulk_Space x : Nat) : Int) = ((x.1.length : Nat) : Int) + ((x.2.length : Nat) : Int) := by unfold bulk_Space; omega
  unfold sm_Space at hs
  obtain ⟨s0, s1⟩ := hs
  rw [laws_szSpace_eq]
  rw [szInt64S_some x.1 (left) s0 (by omega) (by omega), sbind_some]
  by_cases c0 : ((x.1.length : Nat) : Int) ≤ left
  · rw [if_pos c0, sif_f (by omega)]
    rw [szInt64S_some x.2 (left - ((x.1.length : Nat) : Int)) s1 (by omega) (by omega), sbind_some]
    by_cases c1 : ((x.2.length : Nat) : Int) ≤ left - ((x.1.length : Nat) : Int)
    · rw [if_pos c1, sif_f (by omega)]
      rw [if_pos (by omega)]; exact congrArg some (by omega)
    · rw [if_neg c1, sif_t (by omega), if_neg (by omega)]
  · rw [if_neg c0, sif_t (by omega), if_neg (by omega)]
theorem toInt64S_some (a : List Int) (hb : a.length ≤ 1048576) : laws_toInt64S a = some a := by
  have hl : a.length ≤ 1048576 := hb
  have key := loop_fill a id (fun i out => laws_toInt64S_l3 a i out) id (fun out ho => by rw [laws_toInt64S_l3_eq, sif_f (by omega)]; rfl) (fun i x out hx hi ho => by
    rw [laws_toInt64S_l3_eq, sif_t (by omega), idx_some hx, sbind_some, sif_pos (lt3_ok (by omega) (by omega)), wi64_add1 (by omega)]
    rfl) (List.replicate a.length (0 : Int)) (by simp)
  rw [laws_toInt64S_eq, sif_pos (by rw [le3_ok (by omega) (by omega), room_ok (by omega)]; rfl)]
  simpa using key
theorem toSpace_some (x : List Int × List Int) (hb : bulk_Space x ≤ 1048576) : laws_toSpace x.1 x.2 = some (x.1, x.2) := by
  unfold bulk_Space at hb
  rw [laws_toSpace_eq, toInt64S_some x.1 (by omega), sbind_some, toInt64S_some x.2 (by omega), sbind_some]
theorem eqInt64S_refl (a : List Int) (hb : a.length ≤ 1048576) : laws_eqInt64S a a = some true := by
  have hl : a.length ≤ 1048576 := hb
  have key := loop_all a (fun i => laws_eqInt64S_l4 a a (i : Int)) (some true) (by rw [laws_eqInt64S_l4_eq, sif_f (by omega)]) (fun i x hx hi => by
    rw [laws_eqInt64S_l4_eq, sif_t (by omega), idx_some hx, sbind_some, sbind_some, bne_self_eq_false, sif_false, wi64_add1 (by omega)])
  rw [laws_eqInt64S_eq, bne_self_eq_false, sif_false]
  exact key
theorem eqSpace_refl (x : List Int × List Int) (hb : bulk_Space x ≤ 1048576) : laws_eqSpace x.1 x.2 x.1 x.2 = some true := by
  unfold bulk_Space at hb
  rw [laws_eqSpace_eq, eqInt64S_refl x.1 (by omega), sbind_some, eqInt64S_refl x.2 (by omega), sbind_some]
  simp only [seq_self, bne_self_eq_false, beq_self_eq_true, Bool.not_true, Bool.not_false, sif_false, sif_true]
/-! bytesL -/
theorem bidx_ofB (s : ByteArray) (i : Int) : bidx s i = idx (Ve.ofB s) i := by
  unfold bidx idx
  split
  · unfold Ve.ofB
    rw [List.getElem?_map]
    congr 1
    rw [Array.getElem?_toList, getElem?_def, getElem?_def]
    rfl
  · rfl
def inB (l : List Int) : Prop := ∀ x ∈ l, 0 ≤ x ∧ x ≤ 255
theorem ofB_inB (s : ByteArray) : inB (Ve.ofB s) := by
  intro x hx
  unfold Ve.ofB at hx
  obtain ⟨b, _, rfl⟩ := List.mem_map.1 hx
  have := b.toNat_lt
  omega
theorem toB_ofB (s : ByteArray) : Ve.toB (Ve.ofB s) = s := by
  unfold Ve.toB Ve.ofB
  rw [List.map_map]
  have : ((fun n : Int => UInt8.ofNat n.toNat) ∘ fun b : UInt8 => (b.toNat : Int)) = id := by funext b; simp
  rw [this, List.map_id]
theorem ofB_toB {l : List Int} (h : inB l) : Ve.ofB (Ve.toB l) = l := by
  unfold Ve.toB Ve.ofB
  simp only [List.map_map]
  conv => rhs; rw [← List.map_id l]
  refine List.map_congr_left (fun x hx => ?_)
  have := h x hx
  simp only [Function.comp, id]
  rw [UInt8.toNat_ofNat']
  omega
theorem bits_and_u64 (a : Int) : 0 ≤ bits .and .u64 a 255 ∧ bits .and .u64 a 255 ≤ 255 := by
  have h : ∀ x : BitVec 64, (x &&& 255#64).toNat ≤ 255 := fun x => by rw [BitVec.toNat_and]; exact Nat.and_le_right
  have := h (BitVec.ofInt 64 a)
  have e : bits .and .u64 a 255 = wu64 (((BitVec.ofInt 64 a) &&& 255#64).toNat : Int) := rfl
  rw [e, wu64_id (by omega) (by omega)]
  omega
/-! leL -/
def leN : List Int → Int
  | [] => 0
  | b :: r => b + 256 * leN r
theorem leN_ge : ∀ {l : List Int}, inB l → 0 ≤ leN l
  | [], _ => by simp [leN]
  | b :: r, h => by
    have := leN_ge (l := r) (fun x hx => h x (by simp [hx])); have := h b (by simp); simp only [leN]; omega
theorem leN_lt : ∀ {l : List Int}, inB l → leN l < 256 ^ l.length
  | [], _ => by simp [leN]
  | b :: r, h => by
    have := leN_lt (l := r) (fun x hx => h x (by simp [hx])); have := h b (by simp)
    simp only [leN, List.length_cons, Int.pow_succ]; omega
theorem leN_append : ∀ (a b : List Int), leN (a ++ b) = leN a + 256 ^ a.length * leN b
  | [], b => by simp [leN]
  | x :: a, b => by
    simp only [List.cons_append, leN, leN_append a b, List.length_cons, Int.pow_succ]
    rw [Int.mul_add, Int.mul_comm (256 ^ a.length) 256, Int.mul_assoc]; omega
theorem inB_take {l : List Int} (h : inB l) (n : Nat) : inB (l.take n) := fun x hx => h x (List.mem_of_mem_take hx)
theorem inB_drop {l : List Int} (h : inB l) (n : Nat) : inB (l.drop n) := fun x hx => h x (List.mem_of_mem_drop hx)
theorem leN_drop {l : List Int} (h : inB l) : ∀ n, leN (l.drop n) ≤ leN l := by
  induction l with
  | nil => intro n; simp
  | cons b r ih =>
    intro n
    cases n with
    | zero => simp
    | succ n =>
      have h1 := ih (fun x hx => h x (by simp [hx])) n
      have h2 := leN_ge (l := r) (fun x hx => h x (by simp [hx]))
      have h3 := h b (by simp)
      simp only [List.drop_succ_cons, leN]; omega
def leB (n : Int) (k : Nat) : List Int := (List.range k).map (fun i => wu8 (Int.fdiv n (2 ^ (8 * i))))
theorem leB_len (n : Int) (k : Nat) : (leB n k).length = k := by simp [leB]
theorem leB_in (n : Int) (k : Nat) : inB (leB n k) := by
  intro x hx
  obtain ⟨i, _, rfl⟩ := List.mem_map.1 hx
  rw [wu8_def]; omega
theorem fdiv_shift (n : Int) (i : Nat) : Int.fdiv n (2 ^ (8 * (i + 1))) = Int.fdiv (Int.fdiv n 256) (2 ^ (8 * i)) := by
  rw [Int.fdiv_eq_ediv_of_nonneg _ (Int.pow_nonneg (by decide)), Int.fdiv_eq_ediv_of_nonneg _ (Int.pow_nonneg (by decide)), Int.fdiv_eq_ediv_of_nonneg _ (by decide)]
  rw [Int.ediv_ediv_of_nonneg (by decide)]
  congr 1
  rw [Nat.mul_add, Int.pow_add, Int.mul_comm]; rfl
theorem leB_succ (n : Int) (k : Nat) : leB n (k + 1) = wu8 n :: leB (Int.fdiv n 256) k := by
  unfold leB
  rw [List.range_succ_eq_map, List.map_cons, List.map_map]
  congr 1
  · simp [Int.fdiv_one]
  · refine List.map_congr_left (fun i _ => ?_)
    simp only [Function.comp]
    rw [Nat.succ_eq_add_one, fdiv_shift]
theorem leN_leB : ∀ (k : Nat) (n : Int), 0 ≤ n → n < 256 ^ k → leN (leB n k) = n
  | 0, n, h0, h1 => by simp at h1; simp [leB, leN]; omega
  | k + 1, n, h0, h1 => by
    rw [Int.pow_succ] at h1
    rw [leB_succ, leN, Int.fdiv_eq_ediv_of_nonneg _ (by decide), leN_leB k (n / 256) (by omega) (by omega), wu8_def]
    omega
theorem or_add {x b k : Nat} (h : x < 2 ^ k) : x ||| (b * 2 ^ k) = x + b * 2 ^ k := by
  have := Nat.shiftLeft_add_eq_or_of_lt h b
  rw [Nat.shiftLeft_eq] at this
  rw [Nat.or_comm, ← this, Nat.add_comm]
theorem bits_or_nat {x y : Nat} (hx : x < 18446744073709551616) (hy : y < 18446744073709551616) : bits .or .u64 (x : Int) (y : Int) = ((x ||| y : Nat) : Int) := by
  have e : bits .or .u64 (x : Int) (y : Int) = wu64 (((BitVec.ofInt 64 (x : Int)) ||| (BitVec.ofInt 64 (y : Int))).toNat : Int) := rfl
  have hxy : x ||| y < 2 ^ 64 := Nat.or_lt_two_pow hx hy
  rw [e, BitVec.toNat_or, BitVec.ofInt_natCast, BitVec.ofInt_natCast, BitVec.toNat_ofNat, BitVec.toNat_ofNat, Nat.mod_eq_of_lt hx, Nat.mod_eq_of_lt hy, wu64_id (by omega) (by omega)]
theorem or_step {n b : Int} {i : Nat} (hi : i ≤ 7) (h0 : 0 ≤ n) (h1 : n < 256 ^ i) (b0 : 0 ≤ b) (b1 : b ≤ 255) : bits .or .u64 n (wu64 ((wu64 b) * 2 ^ (min (wi64 (8 * (i : Int))).toNat 64))) = n + 256 ^ i * b := by
  rw [wi64_id (by omega) (by omega), wu64_id (n := b) (by omega) (by omega)]
  have hm : min (8 * (i : Int)).toNat 64 = 8 * i := by omega
  rw [hm]
  have hp : (256 : Int) ^ i = 2 ^ (8 * i) := by rw [Int.pow_mul]; rfl
  have hpn : ((2 ^ (8 * i) : Nat) : Int) = 2 ^ (8 * i) := by push_cast; rfl
  have hle : (2 : Nat) ^ (8 * i) ≤ 2 ^ 56 := Nat.pow_le_pow_right (by decide) (by omega)
  obtain ⟨bn, rfl⟩ : ∃ bn : Nat, b = bn := ⟨b.toNat, by omega⟩
  obtain ⟨nn, rfl⟩ : ∃ nn : Nat, n = nn := ⟨n.toNat, by omega⟩
  rw [hp, ← hpn] at h1
  have hmul : bn * 2 ^ (8 * i) ≤ 255 * 2 ^ 56 := Nat.mul_le_mul (by omega) hle
  rw [hp, ← hpn, ← Int.natCast_mul, wu64_id (by omega) (by omega), bits_or_nat (by omega) (by omega), or_add (by omega)]
  push_cast
  rw [Int.mul_comm]
theorem wu8_and (m : Int) : wu8 (bits .and .i64 m 255) = wu8 m := by
  have e : bits .and .i64 m 255 = wi64 (((BitVec.ofInt 64 m) &&& 255#64).toNat : Int) := rfl
  have h : ∀ x : BitVec 64, (x &&& 255#64).toNat = x.toNat % 256 := fun x => by
    rw [BitVec.toNat_and]; exact Nat.and_two_pow_sub_one_eq_mod x.toNat 8
  rw [e, h, BitVec.toNat_ofInt, wi64_id (by omega) (by omega), wu8_def, wu8_def]
  omega
theorem toB_append (a b : List Int) : toB a ++ toB b = toB (a ++ b) := by
  unfold toB
  apply ByteArray.ext
  simp
theorem joinsT {a b : List Int} (h : a.length + b.length ≤ 4611686018427387904) : joins (toB a) (toB b) = true := joins_ok (by rw [toB_size, toB_size]; omega)
theorem extract_toB (l : List Int) (i j : Nat) : (toB l).extract i j = toB ((l.take j).drop i) := by
  unfold toB
  apply ByteArray.ext
  simp [ByteArray.data_extract, List.map_take, List.map_drop, List.drop_take]
theorem bidx_toB {l : List Int} (h : inB l) {i : Int} (h0 : 0 ≤ i) : bidx (toB l) i = l[i.toNat]? := by rw [bidx_ofB, ofB_toB h, idx_int h0]
theorem toB_inj {a b : List Int} (ha : inB a) (hb : inB b) (h : toB a = toB b) : a = b := by rw [← ofB_toB ha, h, ofB_toB hb]
theorem seq_toB {a b : List Int} (ha : inB a) (hb : inB b) : seq (toB a) (toB b) = decide (a = b) := by
  rw [seq_eq, Bool.eq_iff_iff]
  simp only [decide_eq_true_eq]
  exact ⟨toB_inj ha hb, fun h => by rw [h]⟩
/-! within -/
theorem spec_l00In_some (n lo hi : Int) : spec_l00In n lo hi = some (inr n lo hi) := by rw [spec_l00In_eq, inr_sif]
theorem impl_within_some (n lo hi : Int) : impl_within n lo hi = some (inr n lo hi) := by rw [impl_within_eq, inr_sif]
/-! decL -/
/-! decimals -/
def decI (u : Nat) : List Int := if h : u < 10 then [48 + (u : Int)] else decI (u / 10) ++ [48 + ((u % 10 : Nat) : Int)]
termination_by u
decreasing_by omega
theorem decI_small {u : Nat} (h : u < 10) : decI u = [48 + (u : Int)] := by rw [decI, dif_pos h]
theorem decI_big {u : Nat} (h : ¬ u < 10) : decI u = decI (u / 10) ++ [48 + ((u % 10 : Nat) : Int)] := by rw [decI, dif_neg h]
theorem decI_pos (u : Nat) : 0 < (decI u).length := by
  by_cases h : u < 10
  · rw [decI_small h]; simp
  · rw [decI_big h, List.length_append]; simp
theorem decI_len : ∀ (k u : Nat), u < 10 ^ (k + 1) → (decI u).length ≤ k + 1
  | 0, u, h => by rw [decI_small (by simpa using h)]; simp
  | k + 1, u, h => by
    by_cases h1 : u < 10
    · rw [decI_small h1]; simp
    · rw [decI_big h1, List.length_append, List.length_singleton]
      have := decI_len k (u / 10) (by rw [Nat.div_lt_iff_lt_mul (by decide)]; rw [Nat.pow_succ] at h; exact h)
      omega
theorem decI_in : ∀ (u : Nat), ∀ x ∈ decI u, 48 ≤ x ∧ x ≤ 57 := by
  intro u
  induction u using Nat.strongRecOn with
  | _ u ih =>
    intro x hx
    by_cases h : u < 10
    · rw [decI_small h, List.mem_singleton] at hx; omega
    · rw [decI_big h, List.mem_append, List.mem_singleton] at hx
      rcases hx with hx | hx
      · exact ih (u / 10) (by omega) x hx
      · omega
/-- the text of a number -/
def itI (n : Int) : List Int := if n < 0 then 45 :: decI n.natAbs else decI n.toNat
theorem itI_pos (n : Int) : 0 < (itI n).length := by
  unfold itI
  split
  · simp
  · exact decI_pos _
theorem itI_len {n : Int} (h : -9223372036854775808 ≤ n ∧ n ≤ 9223372036854775807) : (itI n).length ≤ 20 := by
  unfold itI
  split
  · rw [List.length_cons]; have := decI_len 18 n.natAbs (by omega); omega
  · have := decI_len 18 n.toNat (by omega); omega
theorem itI_nat {n : Int} (h : 0 ≤ n) : itI n = decI n.toNat := by unfold itI; rw [if_neg (by omega)]
theorem decI_lib : ∀ (u : Nat), (decI u).map (fun n => UInt8.ofNat n.toNat) = Lib.decDigits u := by
  intro u
  induction u using Nat.strongRecOn with
  | _ u ih =>
    rw [Lib.decDigits]
    by_cases h : u < 10
    · rw [decI_small h, dif_pos h]
      show [UInt8.ofNat ((48 : Int) + (u : Int)).toNat] = _
      congr 2
    · rw [decI_big h, dif_neg h, List.map_append, ih (u / 10) (by omega)]
      congr 1
theorem itI_lib (n : Int) : (⟨(Lib.itoa n).toArray⟩ : ByteArray) = toB (itI n) := by
  have e : (itI n).map (fun n => UInt8.ofNat n.toNat) = Lib.itoa n := by
    unfold itI Lib.itoa
    split
    · rw [List.map_cons, decI_lib]; rfl
    · exact decI_lib _
  unfold toB
  rw [e]
theorem impl_decimal_some (n : Int) (h : -9223372036854775808 ≤ n ∧ n ≤ 9223372036854775807) : impl_decimal n = some (toB (itI n)) := by
  rw [impl_decimal_eq, strconv_FormatInt_eq, fmtInt, if_pos ⟨rfl, h.1, h.2⟩, sbind_some, itI_lib]
/-! kbL -/
theorem kbeq {a b : Int} (h : a = b) : (a == b) = true := by rw [beq_iff_eq]; exact h
theorem kbne {a b : Int} (h : a ≠ b) : (a == b) = false := by rw [beq_eq_false_iff_ne]; exact h
/-! dimL -/
/-! the dimensions of an array -/
def prodF : Int → List Int → Int
  | n, [] => n
  | n, d :: r => prodF (n * d) r
def capN : Nat → Int
  | 0 => 1
  | 1 => 40
  | 2 => 1600
  | _ => 64000
theorem prod_step {i : Nat} (hi : i < 3) {n d : Int} (hn : 0 ≤ n) (hn' : n ≤ capN i) (hd : 0 ≤ d) (hd' : d ≤ 40) : wi64 (n * d) = n * d ∧ 0 ≤ n * d ∧ n * d ≤ capN (i + 1) := by
  have h1 : 0 ≤ n * d := Int.mul_nonneg hn hd
  have h2 : n * d ≤ n * 40 := Int.mul_le_mul_of_nonneg_left hd' hn
  have h3 : n * d ≤ capN (i + 1) ∧ capN (i + 1) ≤ 64000 := by
    rcases (by omega : i = 0 ∨ i = 1 ∨ i = 2) with rfl | rfl | rfl <;> simp only [capN] at hn' ⊢ <;> omega
  exact ⟨wi64_id (by omega) (by omega), h1, h3.1⟩
def dimsM (D : List Int) : Bool := decide ((D.length : Int) ≤ 3) && (D.all (fun n => inr n 0 40) && decide (prodF 1 D ≤ 600))
theorem dims_in {D : List Int} (h : dimsM D = true) : D.length ≤ 3 ∧ (∀ d ∈ D, 0 ≤ d ∧ d ≤ 40) ∧ prodF 1 D ≤ 600 := by
  unfold dimsM at h
  simp only [Bool.and_eq_true, decide_eq_true_eq, List.all_eq_true, inr_iff] at h
  exact ⟨by omega, h.2.1, h.2.2⟩
theorem prodF_nonneg : ∀ (D : List Int) (n : Int), 0 ≤ n → (∀ d ∈ D, 0 ≤ d ∧ d ≤ 40) → 0 ≤ prodF n D
  | [], _, h, _ => h
  | d :: r, n, h, hd => prodF_nonneg r (n * d) (Int.mul_nonneg h (hd d (by simp)).1) (fun x hx => hd x (by simp [hx]))
theorem all_inr_mem {D : List Int} (h : D.all (fun n => inr n 0 40) = true) : ∀ d ∈ D, 0 ≤ d ∧ d ≤ 40 := fun d hd => inr_iff.1 (List.all_eq_true.1 h d hd)
theorem spec_dims_some (D : List Int) : spec_l05Dims D = some (dimsM D) := by
  rw [spec_l05Dims_eq]
  by_cases hl : (D.length : Int) > 3
  · rw [sif_t hl, dimsM, decide_eq_false (by omega), Bool.false_and]
  · rw [sif_f hl]
    have k := loop_up D (fun i (n : Int) => spec_l05Dims_l5 D n (i : Int)) (fun l n => some (l.all (fun n => inr n 0 40) && decide (prodF n l ≤ 600))) (fun i n => 0 ≤ n ∧ n ≤ capN i)
      (fun n _ => by rw [spec_l05Dims_l5_eq, sif_f (by omega)]; rfl)
      (fun i x r n hx hi hd hI ih => by
        rw [spec_l05Dims_l5_eq, sif_t (by omega), idx_some hx, sbind_some, spec_l00In_some, sbind_some, sbind_some, wi64_add1 (by omega), List.all_cons]
        cases hr : inr x 0 40 with
        | false => rw [Bool.not_false, sif_true, Bool.false_and, Bool.false_and]
        | true =>
          obtain ⟨e1, e2, e3⟩ := prod_step (by omega) hI.1 hI.2 (inr_iff.1 hr).1 (inr_iff.1 hr).2
          rw [Bool.not_true, sif_false, e1, ih _ ⟨e2, e3⟩, Bool.true_and]; rfl) 0 1 (by omega) ⟨by decide, by decide⟩
    rw [show spec_l05Dims_l5 D 1 0 = _ from k, List.drop_zero, dimsM, decide_eq_true (show (D.length : Int) ≤ 3 by omega), Bool.true_and]
theorem impl_product_some (D : List Int) (hl : D.length ≤ 3) (hd : ∀ d ∈ D, 0 ≤ d ∧ d ≤ 40) : impl_product D = some (prodF 1 D) := by
  rw [impl_product_eq]
  have k := loop_up D (fun i (n : Int) => impl_product_l3 n D (D.length : Int) (i : Int)) (fun l n => some (prodF n l)) (fun i n => 0 ≤ n ∧ n ≤ capN i)
    (fun n _ => by rw [impl_product_l3_eq, sif_f (by omega)]; rfl)
    (fun i x r n hx hi hdr hI ih => by
      have hx' := hd x (mem_of_at hx)
      obtain ⟨e1, e2, e3⟩ := prod_step (by omega) hI.1 hI.2 hx'.1 hx'.2
      rw [impl_product_l3_eq, sif_t (by omega), idx_some hx, sbind_some, wi64_add1 (by omega), e1, ih _ ⟨e2, e3⟩]; rfl) 0 1 (by omega) ⟨by decide, by decide⟩
  rw [show impl_product_l3 1 D (D.length : Int) 0 = _ from k, List.drop_zero]
theorem impl_allW_some (l : List Int) (lo hi : Int) (hn : l.length ≤ 1048576) : impl_allWithin l lo hi = some (l.all (fun n => inr n lo hi)) := by
  have k1 : slices_ContainsFunc_sint64_int64_d_allWithin_1 l lo hi = some (l.any (fun n => !inr n lo hi)) := by
    rw [slices_ContainsFunc_sint64_int64_d_allWithin_1_eq, slices_IndexFunc_sint64_int64_d_allWithin_1_eq]
    refine find_any (find_loop l _ (fun i => slices_IndexFunc_sint64_int64_d_allWithin_1_l2 l (l.length : Int) i lo hi) (by rw [slices_IndexFunc_sint64_int64_d_allWithin_1_l2_eq, sif_f (by omega)]) (fun i x hx hi => ?_))
    rw [slices_IndexFunc_sint64_int64_d_allWithin_1_l2_eq, sif_t (by omega), idx_some hx, sbind_some, impl_allWithin_1_eq, impl_within_some, sbind_some, sbind_some, wi64_add1 (by omega)]
  rw [impl_allWithin_eq, k1, sbind_some, any_not_all l (fun n => inr n lo hi) _ (fun _ _ => rfl), Bool.not_not]
theorem impl_dims_some (D : List Int) : impl_ValidDims D = some (dimsM D) := by
  rw [impl_ValidDims_eq, dimsM]
  by_cases hl : (D.length : Int) ≤ 3
  · rw [sif_t hl, impl_allW_some D 0 40 (by omega), sbind_some, decide_eq_true hl, Bool.true_and]
    cases ha : D.all (fun n => inr n 0 40) with
    | false => rw [sif_false, Bool.false_and]
    | true => rw [sif_true, impl_product_some D (by omega) (all_inr_mem ha), sbind_some, Bool.true_and]
  · rw [sif_f hl, decide_eq_false hl, Bool.false_and]
/-! textL -/
/-! texts of numbers; joined texts -/
theorem spec_dig_nat : ∀ (u : Nat), u ≤ 4611686018427387904 → spec_l05Digits (u : Int) = some (toB (decI u)) := by
  intro u
  induction u using Nat.strongRecOn with
  | _ u ih =>
    intro hu
    rw [spec_l05Digits_eq, sif_f (by omega)]
    by_cases h : u < 10
    · rw [sif_t (by omega), wi64_id (by omega) (by omega), wu8_id (by omega) (by omega), decI_small h]
    · have hm : Int.tmod (u : Int) 10 = ((u % 10 : Nat) : Int) := rfl
      have hd : Int.tdiv (u : Int) 10 = ((u / 10 : Nat) : Int) := rfl
      have hL := decI_len 18 (u / 10) (by omega)
      rw [sif_f (by omega), hm, hd, wi64_id (n := ((u / 10 : Nat) : Int)) (by omega) (by omega), ih (u / 10) (by omega) (by omega), sbind_some, wi64_id (by omega) (by omega), wu8_id (by omega) (by omega), sif_pos (joinsT (by rw [List.length_singleton]; omega)), toB_append, decI_big h]
theorem spec_dig_some (n : Int) (h : -4611686018427387904 ≤ n ∧ n ≤ 4611686018427387904) : spec_l05Digits n = some (toB (itI n)) := by
  by_cases h0 : n < 0
  · have hL := decI_len 18 n.natAbs (by omega)
    rw [spec_l05Digits_eq, sif_t h0, wi64_id (by omega) (by omega), show 0 - n = ((n.natAbs : Nat) : Int) by omega, spec_dig_nat n.natAbs (by omega), sbind_some, show bs [45] = toB [45] from rfl, sif_pos (joinsT (by rw [List.length_singleton]; omega)), toB_append, itI, if_pos h0]; rfl
  · have := spec_dig_nat n.toNat (by omega)
    rw [show ((n.toNat : Nat) : Int) = n by omega] at this
    rw [this, itI_nat (by omega)]
def jnT (sep : List Int) (r : List (List Int)) : List Int := (r.map (sep ++ ·)).flatten
def jnL (sep : List Int) : List (List Int) → List Int
  | [] => []
  | w :: r => w ++ jnT sep r
theorem jnT_len (sep : List Int) (k : Nat) : ∀ (r : List (List Int)), (∀ w ∈ r, w.length ≤ k) → (jnT sep r).length ≤ r.length * (k + sep.length)
  | [], _ => by simp [jnT]
  | w :: r, h => by
    have ih := jnT_len sep k r (fun x hx => h x (by simp [hx]))
    have hw := h w (by simp)
    have e : jnT sep (w :: r) = (sep ++ w) ++ jnT sep r := by simp [jnT]
    rw [e, List.length_append, List.length_append, List.length_cons, Nat.add_mul, Nat.one_mul]
    omega
theorem jnL_len (sep : List Int) (k : Nat) (l : List (List Int)) (h : ∀ w ∈ l, w.length ≤ k) : (jnL sep l).length ≤ l.length * (k + sep.length) := by
  cases l with
  | nil => simp [jnL]
  | cons w r =>
    have ih := jnT_len sep k r (fun x hx => h x (by simp [hx]))
    have hw := h w (by simp)
    rw [jnL, List.length_append, List.length_cons, Nat.add_mul, Nat.one_mul]
    omega
def toU (l : List Int) : List UInt8 := l.map (fun n => UInt8.ofNat n.toNat)
theorem toB_toList (l : List Int) : (toB l).data.toList = toU l := by unfold toB toU; simp
theorem toU_append (a b : List Int) : toU (a ++ b) = toU a ++ toU b := List.map_append
theorem toU_jnT (sep : List Int) : ∀ r : List (List Int), toU (jnT sep r) = Lib.joinTail (toU sep) (r.map toU)
  | [] => rfl
  | w :: r => by
    have e : jnT sep (w :: r) = (sep ++ w) ++ jnT sep r := by simp [jnT]
    rw [e, toU_append, toU_append, toU_jnT sep r]
    simp [Lib.joinTail]
theorem joinB_jnL (ws : List (List Int)) (sep : List Int) : joinB (ws.map toB) (toB sep) = toU (jnL sep ws) := by
  unfold joinB
  rw [List.map_map, toB_toList, show ((fun x : ByteArray => x.data.toList) ∘ toB) = toU from funext fun l => toB_toList l]
  cases ws with
  | nil => rfl
  | cons w r => rw [List.map_cons, Lib.join_cons, jnL, toU_append, toU_jnT]
theorem join_some (ws : List (List Int)) (sep : List Int) (h1 : ws.length ≤ 140737488355328) (h2 : (jnL sep ws).length ≤ 140737488355328) : strings_Join (ws.map toB) (toB sep) = some (toB (jnL sep ws)) := by
  rw [strings_Join_eq, joinI, joinB_jnL, if_pos ⟨by rw [List.length_map]; exact h1, by unfold toU; rw [List.length_map]; exact h2⟩]
  rfl
theorem join_small (ws : List (List Int)) (sep : List Int) (hs : sep.length ≤ 2) (h1 : ws.length ≤ 1048577) (h2 : ∀ w ∈ ws, w.length ≤ 100) : strings_Join (ws.map toB) (toB sep) = some (toB (jnL sep ws)) := by
  have := jnL_len sep 100 ws h2
  have h3 : ws.length * (100 + sep.length) ≤ 1048577 * 102 := Nat.mul_le_mul h1 (by omega)
  exact join_some ws sep (by omega) (by omega)
/-! FnExactSpaceText -/
def spOk (p : Int × Int) : Bool := (p.1 == -1) || inr p.1 p.2 40
def spM (D M : List Int) : Bool := dimsM D && (((M.length : Int) == (D.length : Int)) && (M.zip D).all spOk)
theorem zip_at2 {A D : List Int} {i : Nat} {x : Int × Int} (h : (A.zip D)[i]? = some x) : A[i]? = some x.1 ∧ D[i]? = some x.2 := by
  rw [List.getElem?_zip_eq_some] at h
  exact h
theorem spec_space_some (D M : List Int) : spec_l05Space D M = some (spM D M) := by
  rw [spec_l05Space_eq, spec_dims_some, sbind_some, spM]
  cases hd : dimsM D with
  | false => rfl
  | true =>
    obtain ⟨d1, d2, d3⟩ := dims_in hd
    rw [Bool.not_true, sif_false, Bool.true_and]
    by_cases hl : (M.length : Int) = (D.length : Int)
    · rw [sif_neg (by rw [bne_eq_false_iff_eq]; exact hl), kbeq hl, Bool.true_and]
      have hz : (M.zip D).length = M.length := by rw [List.length_zip]; omega
      have k := all_loop (M.zip D) spOk (fun i => spec_l05Space_l4 (i : Int) D M) false (fun i x hx hi => by
        obtain ⟨h1, h2⟩ := zip_at2 hx
        rw [spec_l05Space_l4_eq, sif_t (by omega), idx_some h1, sbind_some, sbind_some, idx_some h2, sbind_some, spec_l00In_some, sbind_some, wi64_add1 (by omega)]
        unfold spOk
        by_cases hx1 : x.1 = -1
        · rw [sif_neg (by rw [bne_eq_false_iff_eq]; exact hx1), kbeq hx1]; rfl
        · rw [sif_pos (by rw [bne_iff_ne]; exact hx1), kbne hx1, Bool.false_or, sif_not])
      rw [show spec_l05Space_l4 0 D M = _ from k, hz, spec_l05Space_l4_eq, sif_f (by omega), sif_bool, Bool.and_true]
    · rw [sif_pos (by rw [bne_iff_ne]; exact hl), kbne hl, Bool.false_and]
theorem impl_space_some (D M : List Int) : impl_ValidSpace D M = some (spM D M) := by
  rw [impl_ValidSpace_eq, impl_dims_some, sbind_some, spM]
  cases hd : dimsM D with
  | false => rfl
  | true =>
    obtain ⟨d1, d2, d3⟩ := dims_in hd
    rw [Bool.not_true, sif_false, Bool.true_and]
    by_cases hl : (M.length : Int) = (D.length : Int)
    · rw [sif_neg (by rw [bne_eq_false_iff_eq]; exact hl), kbeq hl, Bool.true_and]
      have hz : (M.zip D).length = M.length := by rw [List.length_zip]; omega
      have k := all_loop (M.zip D) spOk (fun i => impl_ValidSpace_l4 M (M.length : Int) (i : Int) D M) false (fun i x hx hi => by
        obtain ⟨h1, h2⟩ := zip_at2 hx
        rw [impl_ValidSpace_l4_eq, sif_t (by omega), idx_some h1, sbind_some, idx_some h2, sbind_some, impl_within_some, sbind_some, wi64_add1 (by omega)]
        unfold spOk
        by_cases hx1 : x.1 = -1
        · rw [sif_neg (by rw [bne_eq_false_iff_eq]; exact hx1), kbeq hx1]; rfl
        · rw [sif_pos (by rw [bne_iff_ne]; exact hx1), kbne hx1, Bool.false_or, sif_not])
      rw [show impl_ValidSpace_l4 M (M.length : Int) 0 D M = _ from k, hz, impl_ValidSpace_l4_eq, sif_f (by omega), sif_bool, Bool.and_true]
    · rw [sif_pos (by rw [bne_iff_ne]; exact hl), kbne hl, Bool.false_and]
/-- the word of one dimension -/
def dwI (p : Int × Int) : List Int := itI p.1 ++ (if p.2 = p.1 then [] else if p.2 = -1 then [47, 42] else 47 :: itI p.2)
def spT (D M : List Int) : List Int := 40 :: (jnL [44] ((D.zip M).map dwI) ++ [41])
theorem dw_len {p : Int × Int} (h1 : 0 ≤ p.1 ∧ p.1 ≤ 40) (h2 : -1 ≤ p.2 ∧ p.2 ≤ 40) : (dwI p).length ≤ 50 := by
  have a := itI_len (n := p.1) (by omega)
  have b := itI_len (n := p.2) (by omega)
  unfold dwI
  rw [List.length_append]
  split
  · simp; omega
  · split
    · simp; omega
    · simp; omega
theorem sp_in {D M : List Int} (h : spM D M = true) : D.length ≤ 3 ∧ M.length = D.length ∧ ∀ p ∈ D.zip M, (0 ≤ p.1 ∧ p.1 ≤ 40) ∧ (-1 ≤ p.2 ∧ p.2 ≤ 40) := by
  unfold spM at h
  simp only [Bool.and_eq_true, beq_iff_eq, List.all_eq_true] at h
  obtain ⟨h1, h2, h3⟩ := h
  obtain ⟨d1, d2, d3⟩ := dims_in h1
  refine ⟨d1, by omega, fun p hp => ?_⟩
  obtain ⟨i, hi⟩ := List.mem_iff_getElem?.1 hp
  obtain ⟨g1, g2⟩ := zip_at2 hi
  have hd := d2 _ (mem_of_at g1)
  have hq := h3 (p.2, p.1) (List.mem_iff_getElem?.2 ⟨i, List.getElem?_zip_eq_some.2 ⟨g2, g1⟩⟩)
  refine ⟨hd, ?_⟩
  unfold spOk at hq
  rw [Bool.or_eq_true, beq_iff_eq, inr_iff] at hq
  dsimp only at hq
  omega
theorem spec_st_some (D M : List Int) (h : spM D M = true) : spec_SpaceText_l5 (bs []) 0 D M = some (toB (spT D M)) := by
  obtain ⟨d1, d2, hp⟩ := sp_in h
  have hz : (D.zip M).length = D.length := by rw [List.length_zip]; omega
  have fin : ∀ o : List Int, o.length ≤ 1000 → spec_SpaceText_l5 (toB o) (D.length : Int) D M = some (toB (40 :: (o ++ [41]))) := fun o ho => by
    rw [spec_SpaceText_l5_eq, sif_f (by omega), show bs [40] = toB [40] from rfl, show bs [41] = toB [41] from rfl, sif_pos (joinsT (by simp; omega)), toB_append, sif_pos (joinsT (by simp; omega)), toB_append]; rfl
  -- one word behind what is there
  have wd : ∀ (i : Nat) (x : Int × Int) (o : List Int), (D.zip M)[i]? = some x → i < 3 → o.length ≤ 500 →
      (sbind (idx D (i : Int)) fun x1 => sbind (spec_l05Digits x1) fun r2 => sif (joins (toB o) r2)
         (sbind (idx M (i : Int)) fun x3 =>
          sbind (idx D (i : Int)) fun x4 =>
          sif ((x3 == x4)) (spec_SpaceText_l5 (toB o ++ r2) (wi64 ((i : Int) + 1)) D M) <|
          sif ((x3 == (-1)))
           (sif (joins (toB o ++ r2) (bs [47, 42])) (spec_SpaceText_l5 ((toB o ++ r2) ++ (bs [47, 42])) (wi64 ((i : Int) + 1)) D M) (none)) <|
          sbind (idx M (i : Int)) fun x5 =>
          sbind (spec_l05Digits x5) fun r6 =>
          sif (joins (bs [47]) r6)
           (sif (joins (toB o ++ r2) ((bs [47]) ++ r6)) (spec_SpaceText_l5 ((toB o ++ r2) ++ ((bs [47]) ++ r6)) (wi64 ((i : Int) + 1)) D M) (none)) (none)) (none)) = spec_SpaceText_l5 (toB (o ++ dwI x)) ((i + 1 : Nat) : Int) D M := fun i x o hx hi ho => by
    obtain ⟨g1, g2⟩ := zip_at2 hx
    obtain ⟨b1, b2⟩ := hp x (mem_of_at hx)
    have a1 := itI_len (n := x.1) (by omega)
    have a2 := itI_len (n := x.2) (by omega)
    rw [idx_some g1, sbind_some, spec_dig_some _ (by omega), sbind_some, sif_pos (joinsT (by omega)), idx_some g2, sbind_some, sbind_some, toB_append, wi64_add1 (by omega)]
    unfold dwI
    by_cases c1 : x.2 = x.1
    · rw [kbeq c1, sif_true, if_pos c1, List.append_nil]
    · rw [kbne c1, sif_false, if_neg c1]
      by_cases c2 : x.2 = -1
      · rw [kbeq c2, sif_true, if_pos c2, show bs [47, 42] = toB [47, 42] from rfl, sif_pos (joinsT (by simp; omega)), toB_append, List.append_assoc]
      · rw [kbne c2, sif_false, if_neg c2, sbind_some, spec_dig_some _ (by omega), sbind_some, show bs [47] = toB [47] from rfl, sif_pos (joinsT (by simp; omega)), toB_append, sif_pos (joinsT (by simp; omega)), toB_append, List.append_assoc]; rfl
  have k := loop_up (D.zip M) (fun i (o : List Int) => spec_SpaceText_l5 (toB o) (i : Int) D M) (fun l o => some (toB (40 :: ((o ++ jnT [44] (l.map dwI)) ++ [41])))) (fun i o => 1 ≤ i ∧ o.length ≤ i * 60)
    (fun o hI => by rw [hz, fin o (by omega)]; simp [jnT])
    (fun i x r o hx hi hdr hI ih => by
      obtain ⟨b1, b2⟩ := hp x (mem_of_at hx)
      have hw := dw_len b1 b2
      rw [spec_SpaceText_l5_eq, sif_t (by omega), sif_t (by omega), show bs [44] = toB [44] from rfl, sif_pos (joinsT (by simp; omega)), toB_append]
      rw [wd i x (o ++ [44]) hx (by omega) (by simp; omega), ih _ ⟨by omega, by simp; omega⟩]
      simp [jnT])
  unfold spT
  cases hc : D.zip M with
  | nil =>
    have h0 : D.length = 0 := by rw [← hz, hc]; rfl
    have := fin [] (by simp)
    rw [h0] at this
    exact this
  | cons x r =>
    have hx : (D.zip M)[0]? = some x := by rw [hc]; rfl
    have hlt : 0 < D.length := by rw [← hz, hc]; simp
    obtain ⟨b1, b2⟩ := hp x (mem_of_at hx)
    have hw := dw_len b1 b2
    rw [spec_SpaceText_l5_eq, sif_t (by omega), sif_f (by omega)]
    have h1 := wd 0 x [] hx (by omega) (by simp)
    refine h1.trans ?_
    have h2 := k 1 (dwI x) (by omega) ⟨by omega, by omega⟩
    rw [hc] at h2
    exact h2
theorem impl_st_some (D M : List Int) (h : spM D M = true) : impl_Space_text D M = some (toB (spT D M)) := by
  obtain ⟨d1, d2, hp⟩ := sp_in h
  have hz : (D.zip M).length = D.length := by rw [List.length_zip]; omega
  rw [impl_Space_text_eq]
  have k := loop_up (D.zip M) (fun i (ws : List (List Int)) => impl_Space_text_l3 D (D.length : Int) (i : Int) D M (ws.map toB)) (fun l ws => some (toB (40 :: (jnL [44] (ws ++ l.map dwI) ++ [41])))) (fun i ws => ws.length = i ∧ ∀ w ∈ ws, w.length ≤ 50)
    (fun ws hI => by
      have hj := jnL_len [44] 50 ws hI.2
      have hm : ws.length * (50 + [(44 : Int)].length) ≤ 3 * 51 := Nat.mul_le_mul (by omega) (by simp)
      rw [hz, impl_Space_text_l3_eq, sif_f (by omega), show bs [44] = toB [44] from rfl, join_small ws [44] (by simp) (by omega) (fun w hw => by have := hI.2 w hw; omega), sbind_some, show bs [40] = toB [40] from rfl, show bs [41] = toB [41] from rfl, sif_pos (joinsT (by simp; omega)), toB_append, sif_pos (joinsT (by simp; omega)), toB_append]
      simp)
    (fun i x r ws hx hi hdr hI ih => by
      obtain ⟨g1, g2⟩ := zip_at2 hx
      obtain ⟨b1, b2⟩ := hp x (mem_of_at hx)
      have hw := dw_len b1 b2
      have a1 := itI_len (n := x.1) (by omega)
      have a2 := itI_len (n := x.2) (by omega)
      have step : impl_Space_text_l3 D (D.length : Int) ((i + 1 : Nat) : Int) D M (ws.map toB ++ [toB (dwI x)]) = some (toB (40 :: (jnL [44] (ws ++ (x :: r).map dwI) ++ [41]))) := by
        have := ih (ws ++ [dwI x]) ⟨by simp; omega, fun w hw' => by
          rcases List.mem_append.1 hw' with h | h
          · exact hI.2 w h
          · rw [List.mem_singleton] at h; rw [h]; exact hw⟩
        rw [List.map_append, List.append_assoc] at this
        exact this
      rw [impl_Space_text_l3_eq, sif_t (by omega), idx_some g1, sbind_some, impl_decimal_some _ (by omega), sbind_some, idx_some g2, sbind_some, wi64_add1 (by omega)]
      have hroom : room ((ws.map toB).length + 1) 16 = true := room_ok (by rw [List.length_map]; omega)
      by_cases c2 : x.2 = -1
      · have hd : dwI x = itI x.1 ++ [47, 42] := by unfold dwI; rw [if_neg (by omega), if_pos c2]
        rw [kbeq c2, sif_true, show bs [47, 42] = toB [47, 42] from rfl, sif_pos (joinsT (by simp; omega)), sif_pos hroom, toB_append, ← hd]; exact step
      · rw [kbne c2, sif_false]
        by_cases c1 : x.2 = x.1
        · have hd : dwI x = itI x.1 := by unfold dwI; rw [if_pos c1, List.append_nil]
          rw [kbeq c1, sif_true, sif_pos hroom, ← hd]; exact step
        · have hd : dwI x = itI x.1 ++ ([47] ++ itI x.2) := by unfold dwI; rw [if_neg c1, if_neg c2]; rfl
          rw [kbne c1, sif_false, sbind_some, impl_decimal_some _ (by omega), sbind_some, show bs [47] = toB [47] from rfl, sif_pos (joinsT (by simp; omega)), toB_append, sif_pos (joinsT (by simp; omega)), sif_pos hroom, toB_append, ← hd]; exact step) 0 [] (by omega) ⟨rfl, by simp⟩
  exact k
theorem spec_sp_some (D M : List Int) : spec_SpaceText D M = some (if spM D M = true then toB (spT D M) else bs []) := by
  rw [spec_SpaceText_eq, spec_space_some, sbind_some]
  cases h : spM D M with
  | false => rfl
  | true => rw [Bool.not_true, sif_false, spec_st_some D M h]; rfl
theorem impl_sp_some (D M : List Int) : impl_SpaceText D M = some (if spM D M = true then toB (spT D M) else bs []) := by
  rw [impl_SpaceText_eq, impl_space_some, sbind_some]
  cases h : spM D M with
  | false => rfl
  | true => rw [Bool.not_true, sif_false, impl_st_some D M h, sbind_some]; rfl
theorem pure_FnExactSpaceText (aS_Dims : List Int) (aS_Max : List Int) (O0 : (aS_Dims.length ≤ maxLen ∧ aS_Dims.length * 8 ≤ 140737488351232 ∧ ∀ e_ ∈ aS_Dims, (Lit.int .i64 e_).wf = true) ∧ (aS_Max.length ≤ maxLen ∧ aS_Max.length * 8 ≤ 140737488351232 ∧ ∀ e_ ∈ aS_Max, (Lit.int .i64 e_).wf = true)) : laws_FnExactSpaceText aS_Dims aS_Max = some true := by
  obtain ⟨O1, O2⟩ := O0
  rw [laws_FnExactSpaceText_eq]
  have hsm : sm_Space (aS_Dims, aS_Max) := ⟨by have := O1.1; unfold maxLen at this; dsimp only; omega, by have := O2.1; unfold maxLen at this; dsimp only; omega⟩
  have h1 : laws_szSpace aS_Dims aS_Max 1048576 = _ := szSpace_some (aS_Dims, aS_Max) 1048576 hsm (by decide) (by decide)
  rw [h1, sbind_some]
  by_cases hb : ((bulk_Space (aS_Dims, aS_Max) : Nat) : Int) ≤ 1048576
  · rw [if_pos hb, sif_f (by omega)]
    have t0 : laws_toSpace aS_Dims aS_Max = some (aS_Dims, aS_Max) := toSpace_some (aS_Dims, aS_Max) (by omega)
    have q0 : laws_eqSpace aS_Dims aS_Max aS_Dims aS_Max = some true := eqSpace_refl (aS_Dims, aS_Max) (by omega)
    simp only [t0, sbind_some, spec_sp_some, impl_sp_some, q0, seq_self, sif_false, Bool.not_true]
  · rw [if_neg hb]; rfl
end Go.Ve.X
