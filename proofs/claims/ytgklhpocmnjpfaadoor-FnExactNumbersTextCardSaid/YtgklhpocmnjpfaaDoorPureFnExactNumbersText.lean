/- What 'FnExactNumbersText' comes to, in plain words over numbers, texts and lists: each function that it reaches answers what is told; put together, the law answers true. No condition but the sizes that come in. -/
import Derived.Test.YtgklhpocmnjpfaaDoorEqFnExactNumbersText
namespace Go.Ve.X
open Go.Ve
set_option linter.all false
set_option maxRecDepth 100000
theorem szInt64S_some (a : List Int) (left : Int) (hs : a.length ≤ 140737488355328) (h0 : 0 ≤ left) (h1 : left ≤ 1048576) : laws_szInt64S a left = some (if ((a.length : Nat) : Int) ≤ left then left - ((a.length : Nat) : Int) else -1) := by
  have hl : a.length ≤ 140737488355328 := hs
  rw [laws_szInt64S_eq, wi64_id (by omega) (by omega)]
  by_cases c : (a.length : Int) ≤ left
  · rw [if_pos c, sif_f (by omega)]
  · rw [if_neg c, sif_t (by omega)]
def bulk_Numbers (x : List Int × List Int) : Nat := x.1.length + x.2.length
def sm_Numbers (x : List Int × List Int) : Prop := (x.1.length ≤ 140737488355328) ∧ (x.2.length ≤ 140737488355328)
theorem szNumbers_some (x : List Int × List Int) (left : Int) (hs : sm_Numbers x) (h0 : 0 ≤ left) (h1 : left ≤ 1048576) : laws_szNumbers x.1 x.2 left = some (if ((bulk_Numbers x : Nat) : Int) ≤ left then left - ((bulk_Numbers x : Nat) : Int) else -1) := by
  have hb : ((bulk_Numbers x : Nat) : Int) = ((x.1.length : Nat) : Int) + ((x.2.length : Nat) : Int) := by unfold bulk_Numbers; omega
  unfold sm_Numbers at hs
  obtain ⟨s0, s1⟩ := hs
  rw [laws_szNumbers_eq]
  rw [szInt64S_some x.1 (left) s0 (by omega) (by omega), sbind_some]
  by_cases c0 : ((x.1.length : Nat) : Int) ≤ left
  · rw [if_pos c0, sif_f (by omega)]
    rw [szInt64S_some x.2 (left - ((x.1.length : Nat) : Int)) s1 (by omega) (by omega), sbind_some]
    by_cases c1 : ((x.2.length : Nat) : Int) ≤ left - ((x.1.length : Nat) : Int)
    · rw [if_pos c1, sif_f (by omega)]
      rw [if_pos (by omega)]; exact congrArg some (by omega)
    · rw [if_neg c1, sif_t (by omega), if_neg (by omega)]
  · rw [if_neg c0, sif_t (by omega), if_neg (by omega)]
theorem toInt64S_some (a : List Int) (hb : a.length ≤ 1048576) : laws_toInt64S a = some a := by
  have hl : a.length ≤ 1048576 := hb
  have key := loop_fill a id (fun i out => laws_toInt64S_l3 a i out) id (fun out ho => by rw [laws_toInt64S_l3_eq, sif_f (by omega)]; rfl) (fun i x out hx hi ho => by
    rw [laws_toInt64S_l3_eq, sif_t (by omega), idx_some hx, sbind_some, sif_pos (lt3_ok (by omega) (by omega)), wi64_add1 (by omega)]
    rfl) (List.replicate a.length (0 : Int)) (by simp)
  rw [laws_toInt64S_eq, sif_pos (by rw [le3_ok (by omega) (by omega), room_ok (by omega)]; rfl)]
  simpa using key
theorem toNumbers_some (x : List Int × List Int) (hb : bulk_Numbers x ≤ 1048576) : laws_toNumbers x.1 x.2 = some (x.1, x.2) := by
  unfold bulk_Numbers at hb
  rw [laws_toNumbers_eq, toInt64S_some x.1 (by omega), sbind_some, toInt64S_some x.2 (by omega), sbind_some]
theorem eqInt64S_refl (a : List Int) (hb : a.length ≤ 1048576) : laws_eqInt64S a a = some true := by
  have hl : a.length ≤ 1048576 := hb
  have key := loop_all a (fun i => laws_eqInt64S_l4 a a (i : Int)) (some true) (by rw [laws_eqInt64S_l4_eq, sif_f (by omega)]) (fun i x hx hi => by
    rw [laws_eqInt64S_l4_eq, sif_t (by omega), idx_some hx, sbind_some, sbind_some, bne_self_eq_false, sif_false, wi64_add1 (by omega)])
  rw [laws_eqInt64S_eq, bne_self_eq_false, sif_false]
  exact key
theorem eqNumbers_refl (x : List Int × List Int) (hb : bulk_Numbers x ≤ 1048576) : laws_eqNumbers x.1 x.2 x.1 x.2 = some true := by
  unfold bulk_Numbers at hb
  rw [laws_eqNumbers_eq, eqInt64S_refl x.1 (by omega), sbind_some, eqInt64S_refl x.2 (by omega), sbind_some]
  simp only [seq_self, bne_self_eq_false, beq_self_eq_true, Bool.not_true, Bool.not_false, sif_false, sif_true]
/-! bytesL -/
theorem bidx_ofB (s : ByteArray) (i : Int) : bidx s i = idx (Ve.ofB s) i := by
  unfold bidx idx
  split
  · unfold Ve.ofB
    rw [List.getElem?_map]
    congr 1
    rw [Array.getElem?_toList, getElem?_def, getElem?_def]
    rfl
  · rfl
def inB (l : List Int) : Prop := ∀ x ∈ l, 0 ≤ x ∧ x ≤ 255
theorem ofB_inB (s : ByteArray) : inB (Ve.ofB s) := by
  intro x hx
  unfold Ve.ofB at hx
  obtain ⟨b, _, rfl⟩ := List.mem_map.1 hx
  have := b.toNat_lt
  omega
theorem toB_ofB (s : ByteArray) : Ve.toB (Ve.ofB s) = s := by
  unfold Ve.toB Ve.ofB
  rw [List.map_map]
  have : ((fun n : Int => UInt8.ofNat n.toNat) ∘ fun b : UInt8 => (b.toNat : Int)) = id := by funext b; simp
  rw [this, List.map_id]
theorem ofB_toB {l : List Int} (h : inB l) : Ve.ofB (Ve.toB l) = l := by
  unfold Ve.toB Ve.ofB
  simp only [List.map_map]
  conv => rhs; rw [← List.map_id l]
  refine List.map_congr_left (fun x hx => ?_)
  have := h x hx
  simp only [Function.comp, id]
  rw [UInt8.toNat_ofNat']
  omega
theorem bits_and_u64 (a : Int) : 0 ≤ bits .and .u64 a 255 ∧ bits .and .u64 a 255 ≤ 255 := by
  have h : ∀ x : BitVec 64, (x &&& 255#64).toNat ≤ 255 := fun x => by rw [BitVec.toNat_and]; exact Nat.and_le_right
  have := h (BitVec.ofInt 64 a)
  have e : bits .and .u64 a 255 = wu64 (((BitVec.ofInt 64 a) &&& 255#64).toNat : Int) := rfl
  rw [e, wu64_id (by omega) (by omega)]
  omega
/-! leL -/
def leN : List Int → Int
  | [] => 0
  | b :: r => b + 256 * leN r
theorem leN_ge : ∀ {l : List Int}, inB l → 0 ≤ leN l
  | [], _ => by simp [leN]
  | b :: r, h => by
    have := leN_ge (l := r) (fun x hx => h x (by simp [hx])); have := h b (by simp); simp only [leN]; omega
theorem leN_lt : ∀ {l : List Int}, inB l → leN l < 256 ^ l.length
  | [], _ => by simp [leN]
  | b :: r, h => by
    have := leN_lt (l := r) (fun x hx => h x (by simp [hx])); have := h b (by simp)
    simp only [leN, List.length_cons, Int.pow_succ]; omega
theorem leN_append : ∀ (a b : List Int), leN (a ++ b) = leN a + 256 ^ a.length * leN b
  | [], b => by simp [leN]
  | x :: a, b => by
    simp only [List.cons_append, leN, leN_append a b, List.length_cons, Int.pow_succ]
    rw [Int.mul_add, Int.mul_comm (256 ^ a.length) 256, Int.mul_assoc]; omega
theorem inB_take {l : List Int} (h : inB l) (n : Nat) : inB (l.take n) := fun x hx => h x (List.mem_of_mem_take hx)
theorem inB_drop {l : List Int} (h : inB l) (n : Nat) : inB (l.drop n) := fun x hx => h x (List.mem_of_mem_drop hx)
theorem leN_drop {l : List Int} (h : inB l) : ∀ n, leN (l.drop n) ≤ leN l := by
  induction l with
  | nil => intro n; simp
  | cons b r ih =>
    intro n
    cases n with
    | zero => simp
    | succ n =>
      have h1 := ih (fun x hx => h x (by simp [hx])) n
      have h2 := leN_ge (l := r) (fun x hx => h x (by simp [hx]))
      have h3 := h b (by simp)
      simp only [List.drop_succ_cons, leN]; omega
def leB (n : Int) (k : Nat) : List Int := (List.range k).map (fun i => wu8 (Int.fdiv n (2 ^ (8 * i))))
theorem leB_len (n : Int) (k : Nat) : (leB n k).length = k := by simp [leB]
theorem leB_in (n : Int) (k : Nat) : inB (leB n k) := by
  intro x hx
  obtain ⟨i, _, rfl⟩ := List.mem_map.1 hx
  rw [wu8_def]; omega
theorem fdiv_shift (n : Int) (i : Nat) : Int.fdiv n (2 ^ (8 * (i + 1))) = Int.fdiv (Int.fdiv n 256) (2 ^ (8 * i)) := by
  rw [Int.fdiv_eq_ediv_of_nonneg _ (Int.pow_nonneg (by decide)), Int.fdiv_eq_ediv_of_nonneg _ (Int.pow_nonneg (by decide)), Int.fdiv_eq_ediv_of_nonneg _ (by decide)]
  rw [Int.ediv_ediv_of_nonneg (by decide)]
  congr 1
  rw [Nat.mul_add, Int.pow_add, Int.mul_comm]; rfl
theorem leB_succ (n : Int) (k : Nat) : leB n (k + 1) = wu8 n :: leB (Int.fdiv n 256) k := by
  unfold leB
  rw [List.range_succ_eq_map, List.map_cons, List.map_map]
  congr 1
  · simp [Int.fdiv_one]
  · refine List.map_congr_left (fun i _ => ?_)
    simp only [Function.comp]
    rw [Nat.succ_eq_add_one, fdiv_shift]
theorem leN_leB : ∀ (k : Nat) (n : Int), 0 ≤ n → n < 256 ^ k → leN (leB n k) = n
  | 0, n, h0, h1 => by simp at h1; simp [leB, leN]; omega
  | k + 1, n, h0, h1 => by
    rw [Int.pow_succ] at h1
    rw [leB_succ, leN, Int.fdiv_eq_ediv_of_nonneg _ (by decide), leN_leB k (n / 256) (by omega) (by omega), wu8_def]
    omega
theorem or_add {x b k : Nat} (h : x < 2 ^ k) : x ||| (b * 2 ^ k) = x + b * 2 ^ k := by
  have := Nat.shiftLeft_add_eq_or_of_lt h b
  rw [Nat.shiftLeft_eq] at this
  rw [Nat.or_comm, ← this, Nat.add_comm]
theorem bits_or_nat {x y : Nat} (hx : x < 18446744073709551616) (hy : y < 18446744073709551616) : bits .or .u64 (x : Int) (y : Int) = ((x ||| y : Nat) : Int) := by
  have e : bits .or .u64 (x : Int) (y : Int) = wu64 (((BitVec.ofInt 64 (x : Int)) ||| (BitVec.ofInt 64 (y : Int))).toNat : Int) := rfl
  have hxy : x ||| y < 2 ^ 64 := Nat.or_lt_two_pow hx hy
  rw [e, BitVec.toNat_or, BitVec.ofInt_natCast, BitVec.ofInt_natCast, BitVec.toNat_ofNat, BitVec.toNat_ofNat, Nat.mod_eq_of_lt hx, Nat.mod_eq_of_lt hy, wu64_id (by omega) (by omega)]
theorem or_step {n b : Int} {i : Nat} (hi : i ≤ 7) (h0 : 0 ≤ n) (h1 : n < 256 ^ i) (b0 : 0 ≤ b) (b1 : b ≤ 255) : bits .or .u64 n (wu64 ((wu64 b) * 2 ^ (min (wi64 (8 * (i : Int))).toNat 64))) = n + 256 ^ i * b := by
  rw [wi64_id (by omega) (by omega), wu64_id (n := b) (by omega) (by omega)]
  have hm : min (8 * (i : Int)).toNat 64 = 8 * i := by omega
  rw [hm]
  have hp : (256 : Int) ^ i = 2 ^ (8 * i) := by rw [Int.pow_mul]; rfl
  have hpn : ((2 ^ (8 * i) : Nat) : Int) = 2 ^ (8 * i) := by push_cast; rfl
  have hle : (2 : Nat) ^ (8 * i) ≤ 2 ^ 56 := Nat.pow_le_pow_right (by decide) (by omega)
  obtain ⟨bn, rfl⟩ : ∃ bn : Nat, b = bn := ⟨b.toNat, by omega⟩
  obtain ⟨nn, rfl⟩ : ∃ nn : Nat, n = nn := ⟨n.toNat, by omega⟩
  rw [hp, ← hpn] at h1
  have hmul : bn * 2 ^ (8 * i) ≤ 255 * 2 ^ 56 := Nat.mul_le_mul (by omega) hle
  rw [hp, ← hpn, ← Int.natCast_mul, wu64_id (by omega) (by omega), bits_or_nat (by omega) (by omega), or_add (by omega)]
  push_cast
  rw [Int.mul_comm]
theorem wu8_and (m : Int) : wu8 (bits .and .i64 m 255) = wu8 m := by
  have e : bits .and .i64 m 255 = wi64 (((BitVec.ofInt 64 m) &&& 255#64).toNat : Int) := rfl
  have h : ∀ x : BitVec 64, (x &&& 255#64).toNat = x.toNat % 256 := fun x => by
    rw [BitVec.toNat_and]; exact Nat.and_two_pow_sub_one_eq_mod x.toNat 8
  rw [e, h, BitVec.toNat_ofInt, wi64_id (by omega) (by omega), wu8_def, wu8_def]
  omega
theorem toB_append (a b : List Int) : toB a ++ toB b = toB (a ++ b) := by
  unfold toB
  apply ByteArray.ext
  simp
theorem joinsT {a b : List Int} (h : a.length + b.length ≤ 4611686018427387904) : joins (toB a) (toB b) = true := joins_ok (by rw [toB_size, toB_size]; omega)
theorem extract_toB (l : List Int) (i j : Nat) : (toB l).extract i j = toB ((l.take j).drop i) := by
  unfold toB
  apply ByteArray.ext
  simp [ByteArray.data_extract, List.map_take, List.map_drop, List.drop_take]
theorem bidx_toB {l : List Int} (h : inB l) {i : Int} (h0 : 0 ≤ i) : bidx (toB l) i = l[i.toNat]? := by rw [bidx_ofB, ofB_toB h, idx_int h0]
theorem toB_inj {a b : List Int} (ha : inB a) (hb : inB b) (h : toB a = toB b) : a = b := by rw [← ofB_toB ha, h, ofB_toB hb]
theorem seq_toB {a b : List Int} (ha : inB a) (hb : inB b) : seq (toB a) (toB b) = decide (a = b) := by
  rw [seq_eq, Bool.eq_iff_iff]
  simp only [decide_eq_true_eq]
  exact ⟨toB_inj ha hb, fun h => by rw [h]⟩
/-! within -/
theorem spec_l00In_some (n lo hi : Int) : spec_l00In n lo hi = some (inr n lo hi) := by rw [spec_l00In_eq, inr_sif]
theorem impl_within_some (n lo hi : Int) : impl_within n lo hi = some (inr n lo hi) := by rw [impl_within_eq, inr_sif]
/-! decL -/
/-! decimals -/
def decI (u : Nat) : List Int := if h : u < 10 then [48 + (u : Int)] else decI (u / 10) ++ [48 + ((u % 10 : Nat) : Int)]
termination_by u
decreasing_by omega
theorem decI_small {u : Nat} (h : u < 10) : decI u = [48 + (u : Int)] := by rw [decI, dif_pos h]
theorem decI_big {u : Nat} (h : ¬ u < 10) : decI u = decI (u / 10) ++ [48 + ((u % 10 : Nat) : Int)] := by rw [decI, dif_neg h]
theorem decI_pos (u : Nat) : 0 < (decI u).length := by
  by_cases h : u < 10
  · rw [decI_small h]; simp
  · rw [decI_big h, List.length_append]; simp
theorem decI_len : ∀ (k u : Nat), u < 10 ^ (k + 1) → (decI u).length ≤ k + 1
  | 0, u, h => by rw [decI_small (by simpa using h)]; simp
  | k + 1, u, h => by
    by_cases h1 : u < 10
    · rw [decI_small h1]; simp
    · rw [decI_big h1, List.length_append, List.length_singleton]
      have := decI_len k (u / 10) (by rw [Nat.div_lt_iff_lt_mul (by decide)]; rw [Nat.pow_succ] at h; exact h)
      omega
theorem decI_in : ∀ (u : Nat), ∀ x ∈ decI u, 48 ≤ x ∧ x ≤ 57 := by
  intro u
  induction u using Nat.strongRecOn with
  | _ u ih =>
    intro x hx
    by_cases h : u < 10
    · rw [decI_small h, List.mem_singleton] at hx; omega
    · rw [decI_big h, List.mem_append, List.mem_singleton] at hx
      rcases hx with hx | hx
      · exact ih (u / 10) (by omega) x hx
      · omega
/-- the text of a number -/
def itI (n : Int) : List Int := if n < 0 then 45 :: decI n.natAbs else decI n.toNat
theorem itI_pos (n : Int) : 0 < (itI n).length := by
  unfold itI
  split
  · simp
  · exact decI_pos _
theorem itI_len {n : Int} (h : -9223372036854775808 ≤ n ∧ n ≤ 9223372036854775807) : (itI n).length ≤ 20 := by
  unfold itI
  split
  · rw [List.length_cons]; have := decI_len 18 n.natAbs (by omega); omega
  · have := decI_len 18 n.toNat (by omega); omega
theorem itI_nat {n : Int} (h : 0 ≤ n) : itI n = decI n.toNat := by unfold itI; rw [if_neg (by omega)]
theorem decI_lib : ∀ (u : Nat), (decI u).map (fun n => UInt8.ofNat n.toNat) = Lib.decDigits u := by
  intro u
  induction u using Nat.strongRecOn with
  | _ u ih =>
    rw [Lib.decDigits]
    by_cases h : u < 10
    · rw [decI_small h, dif_pos h]
      show [UInt8.ofNat ((48 : Int) + (u : Int)).toNat] = _
      congr 2
    · rw [decI_big h, dif_neg h, List.map_append, ih (u / 10) (by omega)]
      congr 1
theorem itI_lib (n : Int) : (⟨(Lib.itoa n).toArray⟩ : ByteArray) = toB (itI n) := by
  have e : (itI n).map (fun n => UInt8.ofNat n.toNat) = Lib.itoa n := by
    unfold itI Lib.itoa
    split
    · rw [List.map_cons, decI_lib]; rfl
    · exact decI_lib _
  unfold toB
  rw [e]
theorem impl_decimal_some (n : Int) (h : -9223372036854775808 ≤ n ∧ n ≤ 9223372036854775807) : impl_decimal n = some (toB (itI n)) := by
  rw [impl_decimal_eq, strconv_FormatInt_eq, fmtInt, if_pos ⟨rfl, h.1, h.2⟩, sbind_some, itI_lib]
/-! kbL -/
theorem kbeq {a b : Int} (h : a = b) : (a == b) = true := by rw [beq_iff_eq]; exact h
theorem kbne {a b : Int} (h : a ≠ b) : (a == b) = false := by rw [beq_eq_false_iff_ne]; exact h
/-! dimL -/
/-! the dimensions of an array -/
def prodF : Int → List Int → Int
  | n, [] => n
  | n, d :: r => prodF (n * d) r
def capN : Nat → Int
  | 0 => 1
  | 1 => 40
  | 2 => 1600
  | _ => 64000
theorem prod_step {i : Nat} (hi : i < 3) {n d : Int} (hn : 0 ≤ n) (hn' : n ≤ capN i) (hd : 0 ≤ d) (hd' : d ≤ 40) : wi64 (n * d) = n * d ∧ 0 ≤ n * d ∧ n * d ≤ capN (i + 1) := by
  have h1 : 0 ≤ n * d := Int.mul_nonneg hn hd
  have h2 : n * d ≤ n * 40 := Int.mul_le_mul_of_nonneg_left hd' hn
  have h3 : n * d ≤ capN (i + 1) ∧ capN (i + 1) ≤ 64000 := by
    rcases (by omega : i = 0 ∨ i = 1 ∨ i = 2) with rfl | rfl | rfl <;> simp only [capN] at hn' ⊢ <;> omega
  exact ⟨wi64_id (by omega) (by omega), h1, h3.1⟩
def dimsM (D : List Int) : Bool := decide ((D.length : Int) ≤ 3) && (D.all (fun n => inr n 0 40) && decide (prodF 1 D ≤ 600))
theorem dims_in {D : List Int} (h : dimsM D = true) : D.length ≤ 3 ∧ (∀ d ∈ D, 0 ≤ d ∧ d ≤ 40) ∧ prodF 1 D ≤ 600 := by
  unfold dimsM at h
  simp only [Bool.and_eq_true, decide_eq_true_eq, List.all_eq_true, inr_iff] at h
  exact ⟨by omega, h.2.1, h.2.2⟩
theorem prodF_nonneg : ∀ (D : List Int) (n : Int), 0 ≤ n → (∀ d ∈ D, 0 ≤ d ∧ d ≤ 40) → 0 ≤ prodF n D
  | [], _, h, _ => h
  | d :: r, n, h, hd => prodF_nonneg r (n * d) (Int.mul_nonneg h (hd d (by simp)).1) (fun x hx => hd x (by simp [hx]))
theorem all_inr_mem {D : List Int} (h : D.all (fun n => inr n 0 40) = true) : ∀ d ∈ D, 0 ≤ d ∧ d ≤ 40 := fun d hd => inr_iff.1 (List.all_eq_true.1 h d hd)
theorem spec_dims_some (D : List Int) : spec_l05Dims D = some (dimsM D) := by
  rw [spec_l05Dims_eq]
  by_cases hl : (D.length : Int) > 3
  · rw [sif_t hl, dimsM, decide_eq_false (by omega), Bool.false_and]
  · rw [sif_f hl]
    have k := loop_up D (fun i (n : Int) => spec_l05Dims_l5 D n (i : Int)) (fun l n => some (l.all (fun n => inr n 0 40) && decide (prodF n l ≤ 600))) (fun i n => 0 ≤ n ∧ n ≤ capN i)
      (fun n _ => by rw [spec_l05Dims_l5_eq, sif_f (by omega)]; rfl)
      (fun i x r n hx hi hd hI ih => by
        rw [spec_l05Dims_l5_eq, sif_t (by omega), idx_some hx, sbind_some, spec_l00In_some, sbind_some, sbind_some, wi64_add1 (by omega), List.all_cons]
        cases hr : inr x 0 40 with
        | false => rw [Bool.not_false, sif_true, Bool.false_and, Bool.false_and]
        | true =>
          obtain ⟨e1, e2, e3⟩ := prod_step (by omega) hI.1 hI.2 (inr_iff.1 hr).1 (inr_iff.1 hr).2
          rw [Bool.not_true, sif_false, e1, ih _ ⟨e2, e3⟩, Bool.true_and]; rfl) 0 1 (by omega) ⟨by decide, by decide⟩
    rw [show spec_l05Dims_l5 D 1 0 = _ from k, List.drop_zero, dimsM, decide_eq_true (show (D.length : Int) ≤ 3 by omega), Bool.true_and]
theorem spec_count_some (D : List Int) (hl : D.length ≤ 3) (hd : ∀ d ∈ D, 0 ≤ d ∧ d ≤ 40) : spec_l05Count D = some (prodF 1 D) := by
  rw [spec_l05Count_eq]
  have k := loop_up D (fun i (n : Int) => spec_l05Count_l3 D n (i : Int)) (fun l n => some (prodF n l)) (fun i n => 0 ≤ n ∧ n ≤ capN i)
    (fun n _ => by rw [spec_l05Count_l3_eq, sif_f (by omega)]; rfl)
    (fun i x r n hx hi hdr hI ih => by
      have hx' := hd x (mem_of_at hx)
      obtain ⟨e1, e2, e3⟩ := prod_step (by omega) hI.1 hI.2 hx'.1 hx'.2
      rw [spec_l05Count_l3_eq, sif_t (by omega), idx_some hx, sbind_some, wi64_add1 (by omega), e1, ih _ ⟨e2, e3⟩]; rfl) 0 1 (by omega) ⟨by decide, by decide⟩
  rw [show spec_l05Count_l3 D 1 0 = _ from k, List.drop_zero]
theorem impl_product_some (D : List Int) (hl : D.length ≤ 3) (hd : ∀ d ∈ D, 0 ≤ d ∧ d ≤ 40) : impl_product D = some (prodF 1 D) := by
  rw [impl_product_eq]
  have k := loop_up D (fun i (n : Int) => impl_product_l3 n D (D.length : Int) (i : Int)) (fun l n => some (prodF n l)) (fun i n => 0 ≤ n ∧ n ≤ capN i)
    (fun n _ => by rw [impl_product_l3_eq, sif_f (by omega)]; rfl)
    (fun i x r n hx hi hdr hI ih => by
      have hx' := hd x (mem_of_at hx)
      obtain ⟨e1, e2, e3⟩ := prod_step (by omega) hI.1 hI.2 hx'.1 hx'.2
      rw [impl_product_l3_eq, sif_t (by omega), idx_some hx, sbind_some, wi64_add1 (by omega), e1, ih _ ⟨e2, e3⟩]; rfl) 0 1 (by omega) ⟨by decide, by decide⟩
  rw [show impl_product_l3 1 D (D.length : Int) 0 = _ from k, List.drop_zero]
theorem impl_allW_some (l : List Int) (lo hi : Int) (hn : l.length ≤ 1048576) : impl_allWithin l lo hi = some (l.all (fun n => inr n lo hi)) := by
  have k1 : slices_ContainsFunc_sint64_int64_d_allWithin_1 l lo hi = some (l.any (fun n => !inr n lo hi)) := by
    rw [slices_ContainsFunc_sint64_int64_d_allWithin_1_eq, slices_IndexFunc_sint64_int64_d_allWithin_1_eq]
    refine find_any (find_loop l _ (fun i => slices_IndexFunc_sint64_int64_d_allWithin_1_l2 l (l.length : Int) i lo hi) (by rw [slices_IndexFunc_sint64_int64_d_allWithin_1_l2_eq, sif_f (by omega)]) (fun i x hx hi => ?_))
    rw [slices_IndexFunc_sint64_int64_d_allWithin_1_l2_eq, sif_t (by omega), idx_some hx, sbind_some, impl_allWithin_1_eq, impl_within_some, sbind_some, sbind_some, wi64_add1 (by omega)]
  rw [impl_allWithin_eq, k1, sbind_some, any_not_all l (fun n => inr n lo hi) _ (fun _ _ => rfl), Bool.not_not]
theorem impl_dims_some (D : List Int) : impl_ValidDims D = some (dimsM D) := by
  rw [impl_ValidDims_eq, dimsM]
  by_cases hl : (D.length : Int) ≤ 3
  · rw [sif_t hl, impl_allW_some D 0 40 (by omega), sbind_some, decide_eq_true hl, Bool.true_and]
    cases ha : D.all (fun n => inr n 0 40) with
    | false => rw [sif_false, Bool.false_and]
    | true => rw [sif_true, impl_product_some D (by omega) (all_inr_mem ha), sbind_some, Bool.true_and]
  · rw [sif_f hl, decide_eq_false hl, Bool.false_and]
/-! textL -/
/-! texts of numbers; joined texts -/
theorem spec_dig_nat : ∀ (u : Nat), u ≤ 4611686018427387904 → spec_l05Digits (u : Int) = some (toB (decI u)) := by
  intro u
  induction u using Nat.strongRecOn with
  | _ u ih =>
    intro hu
    rw [spec_l05Digits_eq, sif_f (by omega)]
    by_cases h : u < 10
    · rw [sif_t (by omega), wi64_id (by omega) (by omega), wu8_id (by omega) (by omega), decI_small h]
    · have hm : Int.tmod (u : Int) 10 = ((u % 10 : Nat) : Int) := rfl
      have hd : Int.tdiv (u : Int) 10 = ((u / 10 : Nat) : Int) := rfl
      have hL := decI_len 18 (u / 10) (by omega)
      rw [sif_f (by omega), hm, hd, wi64_id (n := ((u / 10 : Nat) : Int)) (by omega) (by omega), ih (u / 10) (by omega) (by omega), sbind_some, wi64_id (by omega) (by omega), wu8_id (by omega) (by omega), sif_pos (joinsT (by rw [List.length_singleton]; omega)), toB_append, decI_big h]
theorem spec_dig_some (n : Int) (h : -4611686018427387904 ≤ n ∧ n ≤ 4611686018427387904) : spec_l05Digits n = some (toB (itI n)) := by
  by_cases h0 : n < 0
  · have hL := decI_len 18 n.natAbs (by omega)
    rw [spec_l05Digits_eq, sif_t h0, wi64_id (by omega) (by omega), show 0 - n = ((n.natAbs : Nat) : Int) by omega, spec_dig_nat n.natAbs (by omega), sbind_some, show bs [45] = toB [45] from rfl, sif_pos (joinsT (by rw [List.length_singleton]; omega)), toB_append, itI, if_pos h0]; rfl
  · have := spec_dig_nat n.toNat (by omega)
    rw [show ((n.toNat : Nat) : Int) = n by omega] at this
    rw [this, itI_nat (by omega)]
def jnT (sep : List Int) (r : List (List Int)) : List Int := (r.map (sep ++ ·)).flatten
def jnL (sep : List Int) : List (List Int) → List Int
  | [] => []
  | w :: r => w ++ jnT sep r
theorem jnT_len (sep : List Int) (k : Nat) : ∀ (r : List (List Int)), (∀ w ∈ r, w.length ≤ k) → (jnT sep r).length ≤ r.length * (k + sep.length)
  | [], _ => by simp [jnT]
  | w :: r, h => by
    have ih := jnT_len sep k r (fun x hx => h x (by simp [hx]))
    have hw := h w (by simp)
    have e : jnT sep (w :: r) = (sep ++ w) ++ jnT sep r := by simp [jnT]
    rw [e, List.length_append, List.length_append, List.length_cons, Nat.add_mul, Nat.one_mul]
    omega
theorem jnL_len (sep : List Int) (k : Nat) (l : List (List Int)) (h : ∀ w ∈ l, w.length ≤ k) : (jnL sep l).length ≤ l.length * (k + sep.length) := by
  cases l with
  | nil => simp [jnL]
  | cons w r =>
    have ih := jnT_len sep k r (fun x hx => h x (by simp [hx]))
    have hw := h w (by simp)
    rw [jnL, List.length_append, List.length_cons, Nat.add_mul, Nat.one_mul]
    omega
def toU (l : List Int) : List UInt8 := l.map (fun n => UInt8.ofNat n.toNat)
theorem toB_toList (l : List Int) : (toB l).data.toList = toU l := by unfold toB toU; simp
theorem toU_append (a b : List Int) : toU (a ++ b) = toU a ++ toU b := List.map_append
theorem toU_jnT (sep : List Int) : ∀ r : List (List Int), toU (jnT sep r) = Lib.joinTail (toU sep) (r.map toU)
  | [] => rfl
  | w :: r => by
    have e : jnT sep (w :: r) = (sep ++ w) ++ jnT sep r := by simp [jnT]
    rw [e, toU_append, toU_append, toU_jnT sep r]
    simp [Lib.joinTail]
theorem joinB_jnL (ws : List (List Int)) (sep : List Int) : joinB (ws.map toB) (toB sep) = toU (jnL sep ws) := by
  unfold joinB
  rw [List.map_map, toB_toList, show ((fun x : ByteArray => x.data.toList) ∘ toB) = toU from funext fun l => toB_toList l]
  cases ws with
  | nil => rfl
  | cons w r => rw [List.map_cons, Lib.join_cons, jnL, toU_append, toU_jnT]
theorem join_some (ws : List (List Int)) (sep : List Int) (h1 : ws.length ≤ 140737488355328) (h2 : (jnL sep ws).length ≤ 140737488355328) : strings_Join (ws.map toB) (toB sep) = some (toB (jnL sep ws)) := by
  rw [strings_Join_eq, joinI, joinB_jnL, if_pos ⟨by rw [List.length_map]; exact h1, by unfold toU; rw [List.length_map]; exact h2⟩]
  rfl
theorem join_small (ws : List (List Int)) (sep : List Int) (hs : sep.length ≤ 2) (h1 : ws.length ≤ 1048577) (h2 : ∀ w ∈ ws, w.length ≤ 100) : strings_Join (ws.map toB) (toB sep) = some (toB (jnL sep ws)) := by
  have := jnL_len sep 100 ws h2
  have h3 : ws.length * (100 + sep.length) ≤ 1048577 * 102 := Nat.mul_le_mul h1 (by omega)
  exact join_some ws sep (by omega) (by omega)
/-! FnExactNumbersText -/
def nmM (D N : List Int) : Bool := dimsM D && (((N.length : Int) == prodF 1 D) && N.all (fun n => inr n (-1000000000000) 1000000000000))
theorem spec_nm_some (D N : List Int) : spec_l25Ok D N = some (nmM D N) := by
  rw [spec_l25Ok_eq, spec_dims_some, sbind_some, nmM]
  cases hd : dimsM D with
  | false => rfl
  | true =>
    obtain ⟨d1, d2, d3⟩ := dims_in hd
    rw [Bool.not_true, sif_false, Bool.true_and, spec_count_some D d1 d2, sbind_some]
    by_cases hl : (N.length : Int) = prodF 1 D
    · rw [sif_neg (by rw [bne_eq_false_iff_eq]; exact hl), kbeq hl, Bool.true_and]
      have k := all_loop N (fun n => inr n (-1000000000000) 1000000000000) (fun i => spec_l25Ok_l4 (i : Int) D N) false (fun i x hx hi => by
        rw [spec_l25Ok_l4_eq, sif_t (by omega), idx_some hx, sbind_some, spec_l25Fits_eq, spec_l00In_some, sbind_some, sbind_some, wi64_add1 (by omega), sif_not])
      rw [show spec_l25Ok_l4 0 D N = _ from k, spec_l25Ok_l4_eq, sif_f (by omega), sif_bool, Bool.and_true]
    · rw [sif_pos (by rw [bne_iff_ne]; exact hl), kbne hl, Bool.false_and]
theorem impl_nm_some (D N : List Int) : impl_ValidNumbers D N = some (nmM D N) := by
  rw [impl_ValidNumbers_eq, impl_dims_some, sbind_some, nmM]
  cases hd : dimsM D with
  | false => rfl
  | true =>
    obtain ⟨d1, d2, d3⟩ := dims_in hd
    rw [sif_true, Bool.true_and, impl_product_some D d1 d2, sbind_some]
    by_cases hl : (N.length : Int) = prodF 1 D
    · rw [kbeq hl, sif_true, impl_allW_some N _ _ (by omega), sbind_some, Bool.true_and]
    · rw [kbne hl, Bool.false_and]; rfl
theorem nm_in {D N : List Int} (h : nmM D N = true) : D.length ≤ 3 ∧ (∀ d ∈ D, 0 ≤ d ∧ d ≤ 40) ∧ N.length ≤ 600 ∧ ∀ n ∈ N, -1000000000000 ≤ n ∧ n ≤ 1000000000000 := by
  unfold nmM at h
  simp only [Bool.and_eq_true, beq_iff_eq, List.all_eq_true, inr_iff] at h
  obtain ⟨d1, d2, d3⟩ := dims_in h.1
  exact ⟨d1, d2, by omega, h.2.2⟩
def nlT (D : List Int) : List Int := jnL [44] (D.map itI)
def nmT (D N : List Int) : List Int := (40 :: (nlT D ++ [41])) ++ jnT [32] (N.map itI)
theorem nl_len {D : List Int} (hl : D.length ≤ 3) (hd : ∀ d ∈ D, 0 ≤ d ∧ d ≤ 40) : (nlT D).length ≤ 63 := by
  have h := jnL_len [44] 20 (D.map itI) (fun w hw => by
    obtain ⟨x, hx, rfl⟩ := List.mem_map.1 hw
    have := hd x hx
    exact itI_len (by omega))
  have hm : (D.map itI).length * (20 + [(44 : Int)].length) ≤ 3 * 21 := Nat.mul_le_mul (by rw [List.length_map]; exact hl) (by simp)
  unfold nlT; omega
theorem spec_list_some (D : List Int) (hl : D.length ≤ 3) (hd : ∀ d ∈ D, 0 ≤ d ∧ d ≤ 40) : spec_l05List D = some (toB (nlT D)) := by
  have k := loop_up D (fun i (o : List Int) => spec_l05List_l3 D (toB o) (i : Int)) (fun l o => some (toB (o ++ jnT [44] (l.map itI)))) (fun i o => 1 ≤ i ∧ o.length ≤ i * 21)
    (fun o hI => by rw [spec_l05List_l3_eq, sif_f (by omega)]; simp [jnT])
    (fun i x r o hx hi hdr hI ih => by
      have hb := hd x (mem_of_at hx)
      have a1 := itI_len (n := x) (by omega)
      rw [spec_l05List_l3_eq, sif_t (by omega), sif_t (by omega), show bs [44] = toB [44] from rfl, sif_pos (joinsT (by simp; omega)), toB_append, idx_some hx, sbind_some, spec_dig_some _ (by omega), sbind_some, sif_pos (joinsT (by simp; omega)), toB_append, wi64_add1 (by omega), ih _ ⟨by omega, by simp; omega⟩]
      simp [jnT])
  rw [spec_l05List_eq, nlT]
  cases D with
  | nil => rw [spec_l05List_l3_eq]; rfl
  | cons x r =>
    have hb := hd x (by simp)
    have a1 := itI_len (n := x) (by omega)
    have h2 := k 1 (itI x) (by simp) ⟨by omega, by omega⟩
    rw [spec_l05List_l3_eq, sif_t (by simp <;> omega), sif_f (by omega), show idx (x :: r) 0 = some x from rfl, sbind_some, spec_dig_some _ (by omega), sbind_some, show bs [] = toB [] from rfl, sif_pos (joinsT (by simp; omega)), toB_append, List.nil_append]
    exact h2
theorem impl_list_some (D : List Int) (hl : D.length ≤ 3) (hd : ∀ d ∈ D, 0 ≤ d ∧ d ≤ 40) : impl_listText D = some (toB (nlT D)) := by
  rw [impl_listText_eq]
  have k := loop_up D (fun i (ws : List (List Int)) => impl_listText_l3 D (D.length : Int) (i : Int) (ws.map toB)) (fun l ws => some (toB (jnL [44] (ws ++ l.map itI)))) (fun i ws => ws.length = i ∧ ∀ w ∈ ws, w.length ≤ 20)
    (fun ws hI => by
      rw [impl_listText_l3_eq, sif_f (by omega), show bs [44] = toB [44] from rfl, join_small ws [44] (by simp) (by omega) (fun w hw => by have := hI.2 w hw; omega), sbind_some]
      simp)
    (fun i x r ws hx hi hdr hI ih => by
      have hb := hd x (mem_of_at hx)
      have a1 := itI_len (n := x) (by omega)
      rw [impl_listText_l3_eq, sif_t (by omega), idx_some hx, sbind_some, impl_decimal_some _ (by omega), sbind_some, wi64_add1 (by omega), sif_pos (room_ok (by rw [List.length_map]; omega))]
      have := ih (ws ++ [itI x]) ⟨by simp; omega, fun w hw' => by
        rcases List.mem_append.1 hw' with h | h
        · exact hI.2 w h
        · rw [List.mem_singleton] at h; rw [h]; exact a1⟩
      rw [List.map_append, List.append_assoc] at this
      exact this) 0 [] (by omega) ⟨rfl, by simp⟩
  exact k
theorem spec_nt_some (D N : List Int) (h : nmM D N = true) : spec_l32Text D N = some (toB (nmT D N)) := by
  obtain ⟨d1, d2, d3, d4⟩ := nm_in h
  have hn := nl_len d1 d2
  have k := loop_up N (fun i (o : List Int) => spec_l32Text_l3 (toB o) (i : Int) D N) (fun l o => some (toB (o ++ jnT [32] (l.map itI)))) (fun i o => o.length ≤ 100 + i * 21)
    (fun o hI => by rw [spec_l32Text_l3_eq, sif_f (by omega)]; simp [jnT])
    (fun i x r o hx hi hdr hI ih => by
      have hb := d4 x (mem_of_at hx)
      have a1 := itI_len (n := x) (by omega)
      rw [spec_l32Text_l3_eq, sif_t (by omega), idx_some hx, sbind_some, spec_dig_some _ (by omega), sbind_some, show bs [32] = toB [32] from rfl, sif_pos (joinsT (by simp; omega)), toB_append, sif_pos (joinsT (by simp; omega)), toB_append, wi64_add1 (by omega), ih _ (by simp; omega)]
      simp [jnT]) 0 (40 :: (nlT D ++ [41])) (by omega) (by simp; omega)
  rw [spec_l32Text_eq, spec_list_some D d1 d2, sbind_some, show bs [40] = toB [40] from rfl, show bs [41] = toB [41] from rfl, sif_pos (joinsT (by simp; omega)), toB_append, sif_pos (joinsT (by simp; omega)), toB_append, nmT]
  exact k
theorem impl_nt_some (D N : List Int) (h : nmM D N = true) : impl_Numbers_text D N = some (toB (nmT D N)) := by
  obtain ⟨d1, d2, d3, d4⟩ := nm_in h
  have hn := nl_len d1 d2
  have k := loop_up N (fun i (ws : List (List Int)) => impl_Numbers_text_l3 N (N.length : Int) (i : Int) (ws.map toB)) (fun l ws => some (toB (jnL [32] (ws ++ l.map itI)))) (fun i ws => ws.length = i + 1 ∧ ∀ w ∈ ws, w.length ≤ 100)
    (fun ws hI => by
      rw [impl_Numbers_text_l3_eq, sif_f (by omega), show bs [32] = toB [32] from rfl, join_small ws [32] (by simp) (by omega) hI.2, sbind_some]
      simp)
    (fun i x r ws hx hi hdr hI ih => by
      have hb := d4 x (mem_of_at hx)
      have a1 := itI_len (n := x) (by omega)
      rw [impl_Numbers_text_l3_eq, sif_t (by omega), idx_some hx, sbind_some, impl_decimal_some _ (by omega), sbind_some, wi64_add1 (by omega), sif_pos (room_ok (by rw [List.length_map]; omega))]
      have := ih (ws ++ [itI x]) ⟨by simp; omega, fun w hw' => by
        rcases List.mem_append.1 hw' with h | h
        · exact hI.2 w h
        · rw [List.mem_singleton] at h; rw [h]; omega⟩
      rw [List.map_append, List.append_assoc] at this
      exact this) 0 [40 :: (nlT D ++ [41])] (by omega) ⟨rfl, by simp; omega⟩
  rw [impl_Numbers_text_eq, impl_list_some D d1 d2, sbind_some, show bs [40] = toB [40] from rfl, show bs [41] = toB [41] from rfl, sif_pos (joinsT (by simp; omega)), toB_append, sif_pos (joinsT (by simp; omega)), toB_append, nmT]
  exact k
theorem spec_nn_some (D N : List Int) : spec_NumbersText D N = some (if nmM D N = true then toB (nmT D N) else bs []) := by
  rw [spec_NumbersText_eq, spec_nm_some, sbind_some]
  cases h : nmM D N with
  | false => rfl
  | true => rw [Bool.not_true, sif_false, spec_nt_some D N h, sbind_some]; rfl
theorem impl_nn_some (D N : List Int) : impl_NumbersText D N = some (if nmM D N = true then toB (nmT D N) else bs []) := by
  rw [impl_NumbersText_eq, impl_nm_some, sbind_some]
  cases h : nmM D N with
  | false => rfl
  | true => rw [Bool.not_true, sif_false, impl_nt_some D N h, sbind_some]; rfl
theorem pure_FnExactNumbersText (aN_Dims : List Int) (aN_Nums : List Int) (O0 : (aN_Dims.length ≤ maxLen ∧ aN_Dims.length * 8 ≤ 140737488351232 ∧ ∀ e_ ∈ aN_Dims, (Lit.int .i64 e_).wf = true) ∧ (aN_Nums.length ≤ maxLen ∧ aN_Nums.length * 8 ≤ 140737488351232 ∧ ∀ e_ ∈ aN_Nums, (Lit.int .i64 e_).wf = true)) : laws_FnExactNumbersText aN_Dims aN_Nums = some true := by
  obtain ⟨O1, O2⟩ := O0
  rw [laws_FnExactNumbersText_eq]
  have hsm : sm_Numbers (aN_Dims, aN_Nums) := ⟨by have := O1.1; unfold maxLen at this; dsimp only; omega, by have := O2.1; unfold maxLen at this; dsimp only; omega⟩
  have h1 : laws_szNumbers aN_Dims aN_Nums 1048576 = _ := szNumbers_some (aN_Dims, aN_Nums) 1048576 hsm (by decide) (by decide)
  rw [h1, sbind_some]
  by_cases hb : ((bulk_Numbers (aN_Dims, aN_Nums) : Nat) : Int) ≤ 1048576
  · rw [if_pos hb, sif_f (by omega)]
    have t0 : laws_toNumbers aN_Dims aN_Nums = some (aN_Dims, aN_Nums) := toNumbers_some (aN_Dims, aN_Nums) (by omega)
    have q0 : laws_eqNumbers aN_Dims aN_Nums aN_Dims aN_Nums = some true := eqNumbers_refl (aN_Dims, aN_Nums) (by omega)
    simp only [t0, sbind_some, spec_nn_some, impl_nn_some, q0, seq_self, sif_false, Bool.not_true]
  · rw [if_neg hb]; rfl
end Go.Ve.X
