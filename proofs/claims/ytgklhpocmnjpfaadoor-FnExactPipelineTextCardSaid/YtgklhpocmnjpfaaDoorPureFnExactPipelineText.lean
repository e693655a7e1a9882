/- What 'FnExactPipelineText' comes to, in plain words over numbers, texts and lists: each function that it reaches answers what is told; put together, the law answers true. No condition but the sizes that come in. -/
import Derived.Test.YtgklhpocmnjpfaaDoorEqFnExactPipelineText
namespace Go.Ve.X
open Go.Ve
set_option linter.all false
set_option maxRecDepth 100000
theorem szFilterS_some (a : List (Int × Int × Bool)) (left : Int) (hs : a.length ≤ 140737488355328) (h0 : 0 ≤ left) (h1 : left ≤ 1048576) : laws_szFilterS a left = some (if ((a.length : Nat) : Int) ≤ left then left - ((a.length : Nat) : Int) else -1) := by
  have hl : a.length ≤ 140737488355328 := hs
  rw [laws_szFilterS_eq, wi64_id (by omega) (by omega)]
  by_cases c : (a.length : Int) ≤ left
  · rw [if_pos c, sif_f (by omega)]
  · rw [if_neg c, sif_t (by omega)]
theorem toFilter_some (x : Int × Int × Bool) : laws_toFilter x.1 x.2.1 x.2.2 = some (x.1, x.2.1, x.2.2) := by
  rw [laws_toFilter_eq]
theorem toFilterS_some (a : List (Int × Int × Bool)) (hb : a.length ≤ 1048576) : laws_toFilterS a = some a := by
  have hl : a.length ≤ 1048576 := hb
  have key := loop_fill a id (fun i out => laws_toFilterS_l3 a i out) id (fun out ho => by rw [laws_toFilterS_l3_eq, sif_f (by omega)]; rfl) (fun i x out hx hi ho => by
    rw [laws_toFilterS_l3_eq, sif_t (by omega), idx_some hx, sbind_some, toFilter_some x, sbind_some, sif_pos (lt3_ok (by omega) (by omega)), wi64_add1 (by omega)]
    rfl) (List.replicate a.length ((0, 0, false) : Int × Int × Bool)) (by simp)
  rw [laws_toFilterS_eq, sif_pos (by rw [le3_ok (by omega) (by omega), room_ok (by omega)]; rfl)]
  simpa using key
theorem eqFilter_refl (x : Int × Int × Bool) : laws_eqFilter x.1 x.2.1 x.2.2 x.1 x.2.1 x.2.2 = some true := by
  rw [laws_eqFilter_eq]
  simp only [seq_self, bne_self_eq_false, beq_self_eq_true, Bool.not_true, Bool.not_false, sif_false, sif_true]
theorem eqFilterS_refl (a : List (Int × Int × Bool)) (hb : a.length ≤ 1048576) : laws_eqFilterS a a = some true := by
  have hl : a.length ≤ 1048576 := hb
  have key := loop_all a (fun i => laws_eqFilterS_l4 a a (i : Int)) (some true) (by rw [laws_eqFilterS_l4_eq, sif_f (by omega)]) (fun i x hx hi => by
    rw [laws_eqFilterS_l4_eq, sif_t (by omega), idx_some hx, sbind_some, sbind_some, eqFilter_refl x, sbind_some, Bool.not_true, sif_false, wi64_add1 (by omega)])
  rw [laws_eqFilterS_eq, bne_self_eq_false, sif_false]
  exact key
/-! bytesL -/
theorem bidx_ofB (s : ByteArray) (i : Int) : bidx s i = idx (Ve.ofB s) i := by
  unfold bidx idx
  split
  · unfold Ve.ofB
    rw [List.getElem?_map]
    congr 1
    rw [Array.getElem?_toList, getElem?_def, getElem?_def]
    rfl
  · rfl
def inB (l : List Int) : Prop := ∀ x ∈ l, 0 ≤ x ∧ x ≤ 255
theorem ofB_inB (s : ByteArray) : inB (Ve.ofB s) := by
  intro x hx
  unfold Ve.ofB at hx
  obtain ⟨b, _, rfl⟩ := List.mem_map.1 hx
  have := b.toNat_lt
  omega
theorem toB_ofB (s : ByteArray) : Ve.toB (Ve.ofB s) = s := by
  unfold Ve.toB Ve.ofB
  rw [List.map_map]
  have : ((fun n : Int => UInt8.ofNat n.toNat) ∘ fun b : UInt8 => (b.toNat : Int)) = id := by funext b; simp
  rw [this, List.map_id]
theorem ofB_toB {l : List Int} (h : inB l) : Ve.ofB (Ve.toB l) = l := by
  unfold Ve.toB Ve.ofB
  simp only [List.map_map]
  conv => rhs; rw [← List.map_id l]
  refine List.map_congr_left (fun x hx => ?_)
  have := h x hx
  simp only [Function.comp, id]
  rw [UInt8.toNat_ofNat']
  omega
theorem bits_and_u64 (a : Int) : 0 ≤ bits .and .u64 a 255 ∧ bits .and .u64 a 255 ≤ 255 := by
  have h : ∀ x : BitVec 64, (x &&& 255#64).toNat ≤ 255 := fun x => by rw [BitVec.toNat_and]; exact Nat.and_le_right
  have := h (BitVec.ofInt 64 a)
  have e : bits .and .u64 a 255 = wu64 (((BitVec.ofInt 64 a) &&& 255#64).toNat : Int) := rfl
  rw [e, wu64_id (by omega) (by omega)]
  omega
/-! leL -/
def leN : List Int → Int
  | [] => 0
  | b :: r => b + 256 * leN r
theorem leN_ge : ∀ {l : List Int}, inB l → 0 ≤ leN l
  | [], _ => by simp [leN]
  | b :: r, h => by
    have := leN_ge (l := r) (fun x hx => h x (by simp [hx])); have := h b (by simp); simp only [leN]; omega
theorem leN_lt : ∀ {l : List Int}, inB l → leN l < 256 ^ l.length
  | [], _ => by simp [leN]
  | b :: r, h => by
    have := leN_lt (l := r) (fun x hx => h x (by simp [hx])); have := h b (by simp)
    simp only [leN, List.length_cons, Int.pow_succ]; omega
theorem leN_append : ∀ (a b : List Int), leN (a ++ b) = leN a + 256 ^ a.length * leN b
  | [], b => by simp [leN]
  | x :: a, b => by
    simp only [List.cons_append, leN, leN_append a b, List.length_cons, Int.pow_succ]
    rw [Int.mul_add, Int.mul_comm (256 ^ a.length) 256, Int.mul_assoc]; omega
theorem inB_take {l : List Int} (h : inB l) (n : Nat) : inB (l.take n) := fun x hx => h x (List.mem_of_mem_take hx)
theorem inB_drop {l : List Int} (h : inB l) (n : Nat) : inB (l.drop n) := fun x hx => h x (List.mem_of_mem_drop hx)
theorem leN_drop {l : List Int} (h : inB l) : ∀ n, leN (l.drop n) ≤ leN l := by
  induction l with
  | nil => intro n; simp
  | cons b r ih =>
    intro n
    cases n with
    | zero => simp
    | succ n =>
      have h1 := ih (fun x hx => h x (by simp [hx])) n
      have h2 := leN_ge (l := r) (fun x hx => h x (by simp [hx]))
      have h3 := h b (by simp)
      simp only [List.drop_succ_cons, leN]; omega
def leB (n : Int) (k : Nat) : List Int := (List.range k).map (fun i => wu8 (Int.fdiv n (2 ^ (8 * i))))
theorem leB_len (n : Int) (k : Nat) : (leB n k).length = k := by simp [leB]
theorem leB_in (n : Int) (k : Nat) : inB (leB n k) := by
  intro x hx
  obtain ⟨i, _, rfl⟩ := List.mem_map.1 hx
  rw [wu8_def]; omega
theorem fdiv_shift (n : Int) (i : Nat) : Int.fdiv n (2 ^ (8 * (i + 1))) = Int.fdiv (Int.fdiv n 256) (2 ^ (8 * i)) := by
  rw [Int.fdiv_eq_ediv_of_nonneg _ (Int.pow_nonneg (by decide)), Int.fdiv_eq_ediv_of_nonneg _ (Int.pow_nonneg (by decide)), Int.fdiv_eq_ediv_of_nonneg _ (by decide)]
  rw [Int.ediv_ediv_of_nonneg (by decide)]
  congr 1
  rw [Nat.mul_add, Int.pow_add, Int.mul_comm]; rfl
theorem leB_succ (n : Int) (k : Nat) : leB n (k + 1) = wu8 n :: leB (Int.fdiv n 256) k := by
  unfold leB
  rw [List.range_succ_eq_map, List.map_cons, List.map_map]
  congr 1
  · simp [Int.fdiv_one]
  · refine List.map_congr_left (fun i _ => ?_)
    simp only [Function.comp]
    rw [Nat.succ_eq_add_one, fdiv_shift]
theorem leN_leB : ∀ (k : Nat) (n : Int), 0 ≤ n → n < 256 ^ k → leN (leB n k) = n
  | 0, n, h0, h1 => by simp at h1; simp [leB, leN]; omega
  | k + 1, n, h0, h1 => by
    rw [Int.pow_succ] at h1
    rw [leB_succ, leN, Int.fdiv_eq_ediv_of_nonneg _ (by decide), leN_leB k (n / 256) (by omega) (by omega), wu8_def]
    omega
theorem or_add {x b k : Nat} (h : x < 2 ^ k) : x ||| (b * 2 ^ k) = x + b * 2 ^ k := by
  have := Nat.shiftLeft_add_eq_or_of_lt h b
  rw [Nat.shiftLeft_eq] at this
  rw [Nat.or_comm, ← this, Nat.add_comm]
theorem bits_or_nat {x y : Nat} (hx : x < 18446744073709551616) (hy : y < 18446744073709551616) : bits .or .u64 (x : Int) (y : Int) = ((x ||| y : Nat) : Int) := by
  have e : bits .or .u64 (x : Int) (y : Int) = wu64 (((BitVec.ofInt 64 (x : Int)) ||| (BitVec.ofInt 64 (y : Int))).toNat : Int) := rfl
  have hxy : x ||| y < 2 ^ 64 := Nat.or_lt_two_pow hx hy
  rw [e, BitVec.toNat_or, BitVec.ofInt_natCast, BitVec.ofInt_natCast, BitVec.toNat_ofNat, BitVec.toNat_ofNat, Nat.mod_eq_of_lt hx, Nat.mod_eq_of_lt hy, wu64_id (by omega) (by omega)]
theorem or_step {n b : Int} {i : Nat} (hi : i ≤ 7) (h0 : 0 ≤ n) (h1 : n < 256 ^ i) (b0 : 0 ≤ b) (b1 : b ≤ 255) : bits .or .u64 n (wu64 ((wu64 b) * 2 ^ (min (wi64 (8 * (i : Int))).toNat 64))) = n + 256 ^ i * b := by
  rw [wi64_id (by omega) (by omega), wu64_id (n := b) (by omega) (by omega)]
  have hm : min (8 * (i : Int)).toNat 64 = 8 * i := by omega
  rw [hm]
  have hp : (256 : Int) ^ i = 2 ^ (8 * i) := by rw [Int.pow_mul]; rfl
  have hpn : ((2 ^ (8 * i) : Nat) : Int) = 2 ^ (8 * i) := by push_cast; rfl
  have hle : (2 : Nat) ^ (8 * i) ≤ 2 ^ 56 := Nat.pow_le_pow_right (by decide) (by omega)
  obtain ⟨bn, rfl⟩ : ∃ bn : Nat, b = bn := ⟨b.toNat, by omega⟩
  obtain ⟨nn, rfl⟩ : ∃ nn : Nat, n = nn := ⟨n.toNat, by omega⟩
  rw [hp, ← hpn] at h1
  have hmul : bn * 2 ^ (8 * i) ≤ 255 * 2 ^ 56 := Nat.mul_le_mul (by omega) hle
  rw [hp, ← hpn, ← Int.natCast_mul, wu64_id (by omega) (by omega), bits_or_nat (by omega) (by omega), or_add (by omega)]
  push_cast
  rw [Int.mul_comm]
theorem wu8_and (m : Int) : wu8 (bits .and .i64 m 255) = wu8 m := by
  have e : bits .and .i64 m 255 = wi64 (((BitVec.ofInt 64 m) &&& 255#64).toNat : Int) := rfl
  have h : ∀ x : BitVec 64, (x &&& 255#64).toNat = x.toNat % 256 := fun x => by
    rw [BitVec.toNat_and]; exact Nat.and_two_pow_sub_one_eq_mod x.toNat 8
  rw [e, h, BitVec.toNat_ofInt, wi64_id (by omega) (by omega), wu8_def, wu8_def]
  omega
theorem toB_append (a b : List Int) : toB a ++ toB b = toB (a ++ b) := by
  unfold toB
  apply ByteArray.ext
  simp
theorem joinsT {a b : List Int} (h : a.length + b.length ≤ 4611686018427387904) : joins (toB a) (toB b) = true := joins_ok (by rw [toB_size, toB_size]; omega)
theorem extract_toB (l : List Int) (i j : Nat) : (toB l).extract i j = toB ((l.take j).drop i) := by
  unfold toB
  apply ByteArray.ext
  simp [ByteArray.data_extract, List.map_take, List.map_drop, List.drop_take]
theorem bidx_toB {l : List Int} (h : inB l) {i : Int} (h0 : 0 ≤ i) : bidx (toB l) i = l[i.toNat]? := by rw [bidx_ofB, ofB_toB h, idx_int h0]
theorem toB_inj {a b : List Int} (ha : inB a) (hb : inB b) (h : toB a = toB b) : a = b := by rw [← ofB_toB ha, h, ofB_toB hb]
theorem seq_toB {a b : List Int} (ha : inB a) (hb : inB b) : seq (toB a) (toB b) = decide (a = b) := by
  rw [seq_eq, Bool.eq_iff_iff]
  simp only [decide_eq_true_eq]
  exact ⟨toB_inj ha hb, fun h => by rw [h]⟩
/-! within -/
theorem spec_l00In_some (n lo hi : Int) : spec_l00In n lo hi = some (inr n lo hi) := by rw [spec_l00In_eq, inr_sif]
theorem impl_within_some (n lo hi : Int) : impl_within n lo hi = some (inr n lo hi) := by rw [impl_within_eq, inr_sif]
/-! decL -/
/-! decimals -/
def decI (u : Nat) : List Int := if h : u < 10 then [48 + (u : Int)] else decI (u / 10) ++ [48 + ((u % 10 : Nat) : Int)]
termination_by u
decreasing_by omega
theorem decI_small {u : Nat} (h : u < 10) : decI u = [48 + (u : Int)] := by rw [decI, dif_pos h]
theorem decI_big {u : Nat} (h : ¬ u < 10) : decI u = decI (u / 10) ++ [48 + ((u % 10 : Nat) : Int)] := by rw [decI, dif_neg h]
theorem decI_pos (u : Nat) : 0 < (decI u).length := by
  by_cases h : u < 10
  · rw [decI_small h]; simp
  · rw [decI_big h, List.length_append]; simp
theorem decI_len : ∀ (k u : Nat), u < 10 ^ (k + 1) → (decI u).length ≤ k + 1
  | 0, u, h => by rw [decI_small (by simpa using h)]; simp
  | k + 1, u, h => by
    by_cases h1 : u < 10
    · rw [decI_small h1]; simp
    · rw [decI_big h1, List.length_append, List.length_singleton]
      have := decI_len k (u / 10) (by rw [Nat.div_lt_iff_lt_mul (by decide)]; rw [Nat.pow_succ] at h; exact h)
      omega
theorem decI_in : ∀ (u : Nat), ∀ x ∈ decI u, 48 ≤ x ∧ x ≤ 57 := by
  intro u
  induction u using Nat.strongRecOn with
  | _ u ih =>
    intro x hx
    by_cases h : u < 10
    · rw [decI_small h, List.mem_singleton] at hx; omega
    · rw [decI_big h, List.mem_append, List.mem_singleton] at hx
      rcases hx with hx | hx
      · exact ih (u / 10) (by omega) x hx
      · omega
/-- the text of a number -/
def itI (n : Int) : List Int := if n < 0 then 45 :: decI n.natAbs else decI n.toNat
theorem itI_pos (n : Int) : 0 < (itI n).length := by
  unfold itI
  split
  · simp
  · exact decI_pos _
theorem itI_len {n : Int} (h : -9223372036854775808 ≤ n ∧ n ≤ 9223372036854775807) : (itI n).length ≤ 20 := by
  unfold itI
  split
  · rw [List.length_cons]; have := decI_len 18 n.natAbs (by omega); omega
  · have := decI_len 18 n.toNat (by omega); omega
theorem itI_nat {n : Int} (h : 0 ≤ n) : itI n = decI n.toNat := by unfold itI; rw [if_neg (by omega)]
theorem decI_lib : ∀ (u : Nat), (decI u).map (fun n => UInt8.ofNat n.toNat) = Lib.decDigits u := by
  intro u
  induction u using Nat.strongRecOn with
  | _ u ih =>
    rw [Lib.decDigits]
    by_cases h : u < 10
    · rw [decI_small h, dif_pos h]
      show [UInt8.ofNat ((48 : Int) + (u : Int)).toNat] = _
      congr 2
    · rw [decI_big h, dif_neg h, List.map_append, ih (u / 10) (by omega)]
      congr 1
theorem itI_lib (n : Int) : (⟨(Lib.itoa n).toArray⟩ : ByteArray) = toB (itI n) := by
  have e : (itI n).map (fun n => UInt8.ofNat n.toNat) = Lib.itoa n := by
    unfold itI Lib.itoa
    split
    · rw [List.map_cons, decI_lib]; rfl
    · exact decI_lib _
  unfold toB
  rw [e]
theorem impl_decimal_some (n : Int) (h : -9223372036854775808 ≤ n ∧ n ≤ 9223372036854775807) : impl_decimal n = some (toB (itI n)) := by
  rw [impl_decimal_eq, strconv_FormatInt_eq, fmtInt, if_pos ⟨rfl, h.1, h.2⟩, sbind_some, itI_lib]
/-! kbL -/
theorem kbeq {a b : Int} (h : a = b) : (a == b) = true := by rw [beq_iff_eq]; exact h
theorem kbne {a b : Int} (h : a ≠ b) : (a == b) = false := by rw [beq_eq_false_iff_ne]; exact h
/-! dimL -/
/-! the dimensions of an array -/
def prodF : Int → List Int → Int
  | n, [] => n
  | n, d :: r => prodF (n * d) r
def capN : Nat → Int
  | 0 => 1
  | 1 => 40
  | 2 => 1600
  | _ => 64000
theorem prod_step {i : Nat} (hi : i < 3) {n d : Int} (hn : 0 ≤ n) (hn' : n ≤ capN i) (hd : 0 ≤ d) (hd' : d ≤ 40) : wi64 (n * d) = n * d ∧ 0 ≤ n * d ∧ n * d ≤ capN (i + 1) := by
  have h1 : 0 ≤ n * d := Int.mul_nonneg hn hd
  have h2 : n * d ≤ n * 40 := Int.mul_le_mul_of_nonneg_left hd' hn
  have h3 : n * d ≤ capN (i + 1) ∧ capN (i + 1) ≤ 64000 := by
    rcases (by omega : i = 0 ∨ i = 1 ∨ i = 2) with rfl | rfl | rfl <;> simp only [capN] at hn' ⊢ <;> omega
  exact ⟨wi64_id (by omega) (by omega), h1, h3.1⟩
def dimsM (D : List Int) : Bool := decide ((D.length : Int) ≤ 3) && (D.all (fun n => inr n 0 40) && decide (prodF 1 D ≤ 600))
theorem dims_in {D : List Int} (h : dimsM D = true) : D.length ≤ 3 ∧ (∀ d ∈ D, 0 ≤ d ∧ d ≤ 40) ∧ prodF 1 D ≤ 600 := by
  unfold dimsM at h
  simp only [Bool.and_eq_true, decide_eq_true_eq, List.all_eq_true, inr_iff] at h
  exact ⟨by omega, h.2.1, h.2.2⟩
theorem prodF_nonneg : ∀ (D : List Int) (n : Int), 0 ≤ n → (∀ d ∈ D, 0 ≤ d ∧ d ≤ 40) → 0 ≤ prodF n D
  | [], _, h, _ => h
  | d :: r, n, h, hd => prodF_nonneg r (n * d) (Int.mul_nonneg h (hd d (by simp)).1) (fun x hx => hd x (by simp [hx]))
theorem all_inr_mem {D : List Int} (h : D.all (fun n => inr n 0 40) = true) : ∀ d ∈ D, 0 ≤ d ∧ d ≤ 40 := fun d hd => inr_iff.1 (List.all_eq_true.1 h d hd)
/-! textL -/
/-! texts of numbers; joined texts -/
theorem spec_dig_nat : ∀ (u : Nat), u ≤ 4611686018427387904 → spec_l05Digits (u : Int) = some (toB (decI u)) := by
  intro u
  induction u using Nat.strongRecOn with
  | _ u ih =>
    intro hu
    rw [spec_l05Digits_eq, sif_f (by omega)]
    by_cases h : u < 10
    · rw [sif_t (by omega), wi64_id (by omega) (by omega), wu8_id (by omega) (by omega), decI_small h]
    · have hm : Int.tmod (u : Int) 10 = ((u % 10 : Nat) : Int) := rfl
      have hd : Int.tdiv (u : Int) 10 = ((u / 10 : Nat) : Int) := rfl
      have hL := decI_len 18 (u / 10) (by omega)
      rw [sif_f (by omega), hm, hd, wi64_id (n := ((u / 10 : Nat) : Int)) (by omega) (by omega), ih (u / 10) (by omega) (by omega), sbind_some, wi64_id (by omega) (by omega), wu8_id (by omega) (by omega), sif_pos (joinsT (by rw [List.length_singleton]; omega)), toB_append, decI_big h]
theorem spec_dig_some (n : Int) (h : -4611686018427387904 ≤ n ∧ n ≤ 4611686018427387904) : spec_l05Digits n = some (toB (itI n)) := by
  by_cases h0 : n < 0
  · have hL := decI_len 18 n.natAbs (by omega)
    rw [spec_l05Digits_eq, sif_t h0, wi64_id (by omega) (by omega), show 0 - n = ((n.natAbs : Nat) : Int) by omega, spec_dig_nat n.natAbs (by omega), sbind_some, show bs [45] = toB [45] from rfl, sif_pos (joinsT (by rw [List.length_singleton]; omega)), toB_append, itI, if_pos h0]; rfl
  · have := spec_dig_nat n.toNat (by omega)
    rw [show ((n.toNat : Nat) : Int) = n by omega] at this
    rw [this, itI_nat (by omega)]
def jnT (sep : List Int) (r : List (List Int)) : List Int := (r.map (sep ++ ·)).flatten
def jnL (sep : List Int) : List (List Int) → List Int
  | [] => []
  | w :: r => w ++ jnT sep r
theorem jnT_len (sep : List Int) (k : Nat) : ∀ (r : List (List Int)), (∀ w ∈ r, w.length ≤ k) → (jnT sep r).length ≤ r.length * (k + sep.length)
  | [], _ => by simp [jnT]
  | w :: r, h => by
    have ih := jnT_len sep k r (fun x hx => h x (by simp [hx]))
    have hw := h w (by simp)
    have e : jnT sep (w :: r) = (sep ++ w) ++ jnT sep r := by simp [jnT]
    rw [e, List.length_append, List.length_append, List.length_cons, Nat.add_mul, Nat.one_mul]
    omega
theorem jnL_len (sep : List Int) (k : Nat) (l : List (List Int)) (h : ∀ w ∈ l, w.length ≤ k) : (jnL sep l).length ≤ l.length * (k + sep.length) := by
  cases l with
  | nil => simp [jnL]
  | cons w r =>
    have ih := jnT_len sep k r (fun x hx => h x (by simp [hx]))
    have hw := h w (by simp)
    rw [jnL, List.length_append, List.length_cons, Nat.add_mul, Nat.one_mul]
    omega
def toU (l : List Int) : List UInt8 := l.map (fun n => UInt8.ofNat n.toNat)
theorem toB_toList (l : List Int) : (toB l).data.toList = toU l := by unfold toB toU; simp
theorem toU_append (a b : List Int) : toU (a ++ b) = toU a ++ toU b := List.map_append
theorem toU_jnT (sep : List Int) : ∀ r : List (List Int), toU (jnT sep r) = Lib.joinTail (toU sep) (r.map toU)
  | [] => rfl
  | w :: r => by
    have e : jnT sep (w :: r) = (sep ++ w) ++ jnT sep r := by simp [jnT]
    rw [e, toU_append, toU_append, toU_jnT sep r]
    simp [Lib.joinTail]
theorem joinB_jnL (ws : List (List Int)) (sep : List Int) : joinB (ws.map toB) (toB sep) = toU (jnL sep ws) := by
  unfold joinB
  rw [List.map_map, toB_toList, show ((fun x : ByteArray => x.data.toList) ∘ toB) = toU from funext fun l => toB_toList l]
  cases ws with
  | nil => rfl
  | cons w r => rw [List.map_cons, Lib.join_cons, jnL, toU_append, toU_jnT]
theorem join_some (ws : List (List Int)) (sep : List Int) (h1 : ws.length ≤ 140737488355328) (h2 : (jnL sep ws).length ≤ 140737488355328) : strings_Join (ws.map toB) (toB sep) = some (toB (jnL sep ws)) := by
  rw [strings_Join_eq, joinI, joinB_jnL, if_pos ⟨by rw [List.length_map]; exact h1, by unfold toU; rw [List.length_map]; exact h2⟩]
  rfl
theorem join_small (ws : List (List Int)) (sep : List Int) (hs : sep.length ≤ 2) (h1 : ws.length ≤ 1048577) (h2 : ∀ w ∈ ws, w.length ≤ 100) : strings_Join (ws.map toB) (toB sep) = some (toB (jnL sep ws)) := by
  have := jnL_len sep 100 ws h2
  have h3 : ws.length * (100 + sep.length) ≤ 1048577 * 102 := Nat.mul_le_mul h1 (by omega)
  exact join_some ws sep (by omega) (by omega)
/-! FnExactPipelineText -/
def fOk (f : Int × Int × Bool) : Bool := if f.1 = 1 then inr f.2.1 1 24 && !f.2.2 else if f.1 = 2 then ((f.2.1 == 1) || ((f.2.1 == 2) || (f.2.1 == 4))) && !f.2.2 else if f.1 = 3 then f.2.1 == 0 else if f.1 = 4 then f.2.1 == 0 else if f.1 = 5 then (f.2.1 == 0) && !f.2.2 else false
theorem spec_fOk_some (f : Int × Int × Bool) : spec_l18Ok f.1 f.2.1 f.2.2 = some (fOk f) := by
  rw [spec_l18Ok_eq, fOk]
  by_cases h1 : f.1 = 1
  · rw [kbeq h1, sif_true, if_pos h1, spec_l00In_some, sbind_some, sif_bool]
  rw [kbne h1, sif_false, if_neg h1]
  by_cases h2 : f.1 = 2
  · rw [kbeq h2, sif_true, if_pos h2]
    cases (f.2.1 == 1) <;> cases (f.2.1 == 2) <;> cases (f.2.1 == 4) <;> rfl
  rw [kbne h2, sif_false, if_neg h2]
  by_cases h3 : f.1 = 3
  · rw [kbeq h3, sif_true, sif_true, if_pos h3]
  rw [kbne h3, sif_false, if_neg h3]
  by_cases h4 : f.1 = 4
  · rw [kbeq h4, sif_true, if_pos h4]
  rw [kbne h4, sif_false, if_neg h4]
  by_cases h5 : f.1 = 5
  · rw [kbeq h5, sif_true, if_pos h5, sif_bool]
  · rw [kbne h5, sif_false, if_neg h5]
theorem impl_fOk_some (f : Int × Int × Bool) : impl_ValidFilter f.1 f.2.1 f.2.2 = some (fOk f) := by
  rw [impl_ValidFilter_eq, fOk]
  by_cases h1 : f.1 = 1
  · rw [kbeq h1, sif_true, if_pos h1, impl_within_some, sbind_some, sif_bool]
  rw [kbne h1, sif_false, if_neg h1]
  by_cases h2 : f.1 = 2
  · rw [kbeq h2, sif_true, if_pos h2, impl_isWidth_eq, sif_bool2, sif_bool2, sbind_some, sif_bool]
  rw [kbne h2, sif_false, if_neg h2]
  by_cases h3 : f.1 = 3
  · rw [kbeq h3, sif_true, sif_true, if_pos h3]
  rw [kbne h3, sif_false, if_neg h3]
  by_cases h4 : f.1 = 4
  · rw [kbeq h4, sif_true, if_pos h4]
  rw [kbne h4, sif_false, if_neg h4]
  by_cases h5 : f.1 = 5
  · rw [kbeq h5, sif_true, if_pos h5, sif_bool]
  · rw [kbne h5, sif_false, if_neg h5]
theorem fOk_in {f : Int × Int × Bool} (h : fOk f = true) : (1 ≤ f.1 ∧ f.1 ≤ 5) ∧ (0 ≤ f.2.1 ∧ f.2.1 ≤ 24) ∧ ((f.1 = 1 ∨ f.1 = 2) ↔ 0 < f.2.1) := by
  unfold fOk at h
  split at h
  · simp only [Bool.and_eq_true, inr_iff] at h; omega
  split at h
  · simp only [Bool.and_eq_true, Bool.or_eq_true, beq_iff_eq] at h; omega
  split at h
  · simp only [beq_iff_eq] at h; omega
  split at h
  · simp only [beq_iff_eq] at h; omega
  split at h
  · simp only [Bool.and_eq_true, beq_iff_eq] at h; omega
  · cases h
def plM (l : List (Int × Int × Bool)) : Bool := l.all fOk && decide ((l.length : Int) ≤ 4)
theorem spec_pl_some (l : List (Int × Int × Bool)) (hn : l.length ≤ 1048576) : spec_l19Ok l = some (plM l) := by
  rw [spec_l19Ok_eq, plM]
  have k := all_loop l fOk (fun i => spec_l19Ok_l2 l (i : Int)) false (fun i x hx hi => by
    rw [spec_l19Ok_l2_eq, sif_t (by omega), idx_some hx, sbind_some, spec_fOk_some, sbind_some, wi64_add1 (by omega), sif_not])
  rw [show spec_l19Ok_l2 l 0 = _ from k, spec_l19Ok_l2_eq, sif_f (by omega), sif_bool]
theorem impl_pl_some (l : List (Int × Int × Bool)) (hn : l.length ≤ 1048576) : impl_ValidPipeline l = some (plM l) := by
  have k1 : slices_ContainsFunc_simpl_Filter_impl_Filter_d_ValidPipeline_1 l = some (l.any (fun n => !fOk n)) := by
    rw [slices_ContainsFunc_simpl_Filter_impl_Filter_d_ValidPipeline_1_eq, slices_IndexFunc_simpl_Filter_impl_Filter_d_ValidPipeline_1_eq]
    refine find_any (find_loop l _ (fun i => slices_IndexFunc_simpl_Filter_impl_Filter_d_ValidPipeline_1_l2 l (l.length : Int) i) (by rw [slices_IndexFunc_simpl_Filter_impl_Filter_d_ValidPipeline_1_l2_eq, sif_f (by omega)]) (fun i x hx hi => ?_))
    rw [slices_IndexFunc_simpl_Filter_impl_Filter_d_ValidPipeline_1_l2_eq, sif_t (by omega), idx_some hx, sbind_some, impl_ValidPipeline_1_eq, impl_fOk_some, sbind_some, sbind_some, wi64_add1 (by omega)]
  rw [impl_ValidPipeline_eq, k1, sbind_some, any_not_all l fOk _ (fun _ _ => rfl), Bool.not_not, plM]
  by_cases h : (l.length : Int) ≤ 4
  · rw [sif_t h, decide_eq_true h, Bool.and_true]
  · rw [sif_f h, decide_eq_false h, Bool.and_false]
def wdL : List (List Int) := [[], [115, 104, 117, 102, 102, 108, 101], [100, 101, 108, 116, 97], [114, 117, 110], [108, 122], [115, 117, 109]]
def wdI (k : Int) : List Int := wdL.getD k.toNat []
theorem wd_len (k : Int) : (wdI k).length ≤ 7 := by
  unfold wdI
  rw [List.getD_eq_getElem?_getD]
  cases h : wdL[k.toNat]? with
  | none => simp
  | some x =>
    have ha : ∀ x ∈ wdL, x.length ≤ 7 := by decide
    exact ha x (mem_of_at h)
theorem wd_at {k : Int} (h0 : 1 ≤ k) (h1 : k ≤ 5) : (wdL.map toB)[k.toNat]? = some (toB (wdI k)) := by
  have hk : k.toNat < wdL.length := by show k.toNat < 6; omega
  rw [List.getElem?_map, wdI, List.getD_eq_getElem?_getD, List.getElem?_eq_getElem hk]; rfl
def pmI (p : Int) : List Int := if p > 0 then (40 :: itI p) ++ [41] else []
def flT (f : Int × Int × Bool) : List Int := (wdI f.1 ++ pmI f.2.1) ++ (if f.2.2 = true then [63] else [])
theorem pm_len {p : Int} (h : 0 ≤ p ∧ p ≤ 24) : (pmI p).length ≤ 22 := by
  have a := itI_len (n := p) (by omega)
  unfold pmI
  split
  · simp; omega
  · simp
theorem fl_len {f : Int × Int × Bool} (h : fOk f = true) : (flT f).length ≤ 30 := by
  have a := wd_len f.1
  have b := pm_len (fOk_in h).2.1
  unfold flT
  rw [List.length_append, List.length_append]
  split
  · simp; omega
  · simp; omega
theorem impl_ft_some (f : Int × Int × Bool) (h : fOk f = true) : impl_Filter_text f.1 f.2.1 f.2.2 = some (toB (flT f)) := by
  obtain ⟨h1, h2, h3⟩ := fOk_in h
  have a := wd_len f.1
  have b := itI_len (n := f.2.1) (by omega)
  have hw : idx [bs [], bs [115, 104, 117, 102, 102, 108, 101], bs [100, 101, 108, 116, 97], bs [114, 117, 110], bs [108, 122], bs [115, 117, 109]] f.1 = some (toB (wdI f.1)) := by
    rw [idx_int (by omega)]; exact wd_at h1.1 h1.2
  have e1 : bs [40] = toB [40] := rfl
  have e2 : bs [41] = toB [41] := rfl
  have e3 : bs [63] = toB [63] := rfl
  have par : ∀ K : Option ByteArray, (sbind (impl_decimal f.2.1) fun r2 => sif (joins (bs [40]) r2) (sif (joins ((bs [40]) ++ r2) (bs [41])) (sif (joins (toB (wdI f.1)) (((bs [40]) ++ r2) ++ (bs [41])))
             (sif (f.2.2)
               (sif (joins (toB (wdI f.1) ++ (((bs [40]) ++ r2) ++ (bs [41]))) (bs [63])) (some ((toB (wdI f.1) ++ (((bs [40]) ++ r2) ++ (bs [41]))) ++ (bs [63]))) (none)) <|
              some (toB (wdI f.1) ++ (((bs [40]) ++ r2) ++ (bs [41])))) (none)) (none)) (none)) = some (toB ((wdI f.1 ++ ((40 :: itI f.2.1) ++ [41])) ++ (if f.2.2 = true then [63] else []))) := fun _ => by
    rw [impl_decimal_some _ (by omega), sbind_some, e1, e2, e3, sif_pos (joinsT (by simp; omega)), toB_append, sif_pos (joinsT (by simp; omega)), toB_append, sif_pos (joinsT (by simp; omega)), toB_append]
    cases f.2.2 with
    | false => rw [sif_false, if_neg (by simp), List.append_nil]; rfl
    | true => rw [sif_true, if_pos rfl, sif_pos (joinsT (by simp; omega)), toB_append]; rfl
  rw [impl_Filter_text_eq, hw, sbind_some, flT, pmI]
  by_cases k1 : f.1 = 1
  · rw [kbeq k1, sif_true, if_pos (h3.1 (.inl k1))]; exact par none
  rw [kbne k1, sif_false]
  by_cases k2 : f.1 = 2
  · rw [kbeq k2, sif_true, if_pos (h3.1 (.inr k2))]; exact par none
  rw [kbne k2, sif_false, if_neg (fun hp => by rcases h3.2 hp with h | h <;> omega), List.append_nil, e3]
  cases f.2.2 with
  | false => rw [sif_false, if_neg (by simp), List.append_nil]
  | true => rw [sif_true, if_pos rfl, sif_pos (joinsT (by simp; omega)), toB_append]
def plT (l : List (Int × Int × Bool)) : List Int := jnL [43] (l.map flT)
theorem pl_in {l : List (Int × Int × Bool)} (h : plM l = true) : l.length ≤ 4 ∧ ∀ f ∈ l, fOk f = true := by
  unfold plM at h
  rw [Bool.and_eq_true, decide_eq_true_eq, List.all_eq_true] at h
  exact ⟨by omega, h.1⟩
theorem impl_pt_loop (l : List (Int × Int × Bool)) (h : plM l = true) : impl_pipelineText_l5 l (l.length : Int) 0 [] = some (toB (plT l)) := by
  obtain ⟨h1, h2⟩ := pl_in h
  have k := loop_up l (fun i (ws : List (List Int)) => impl_pipelineText_l5 l (l.length : Int) (i : Int) (ws.map toB)) (fun r ws => some (toB (jnL [43] (ws ++ r.map flT)))) (fun i ws => ws.length = i ∧ ∀ w ∈ ws, w.length ≤ 30)
    (fun ws hI => by
      rw [impl_pipelineText_l5_eq, sif_f (by omega), show bs [43] = toB [43] from rfl, join_small ws [43] (by simp) (by omega) (fun w hw => by have := hI.2 w hw; omega), sbind_some]
      simp)
    (fun i x r ws hx hi hdr hI ih => by
      have hb := h2 x (mem_of_at hx)
      have a1 := fl_len hb
      rw [impl_pipelineText_l5_eq, sif_t (by omega), idx_some hx, sbind_some, impl_ft_some x hb, sbind_some, wi64_add1 (by omega), sif_pos (room_ok (by rw [List.length_map]; omega))]
      have := ih (ws ++ [flT x]) ⟨by simp; omega, fun w hw' => by
        rcases List.mem_append.1 hw' with h | h
        · exact hI.2 w h
        · rw [List.mem_singleton] at h; rw [h]; exact a1⟩
      rw [List.map_append, List.append_assoc] at this
      exact this) 0 [] (by omega) ⟨rfl, by simp⟩
  exact k
theorem spec_pt_loop (l : List (Int × Int × Bool)) (h : plM l = true) : spec_PipelineText_l7 l (bs []) 0 = some (toB (plT l)) := by
  obtain ⟨h1, h2⟩ := pl_in h
  have e1 : bs [40] = toB [40] := rfl
  have e2 : bs [41] = toB [41] := rfl
  have e3 : bs [63] = toB [63] := rfl
  have e4 : bs [43] = toB [43] := rfl
  have wd : ∀ (i : Nat) (x : Int × Int × Bool) (o : List Int), fOk x = true → i < 4 → o.length ≤ 500 →
      (sbind (spec_l19Words ()) fun r2 =>
        sif (lt3 0 x.1 (r2.length : Int))
         (sbind (r2[x.1.toNat]?) fun x3 =>
          sif (joins (toB o) x3)
           (sif (decide (x.2.1 > 0))
             (sbind (spec_l05Digits x.2.1) fun r4 =>
              sif (joins (bs [40]) r4)
               (sif (joins ((bs [40]) ++ r4) (bs [41]))
                 (sif (joins (toB o ++ x3) (((bs [40]) ++ r4) ++ (bs [41])))
                   (sif (x.2.2)
                     (sif (joins ((toB o ++ x3) ++ (((bs [40]) ++ r4) ++ (bs [41]))) (bs [63]))
                       (spec_PipelineText_l7 l (((toB o ++ x3) ++ (((bs [40]) ++ r4) ++ (bs [41]))) ++ (bs [63])) (wi64 ((i : Int) + 1))) (none)) <|
                    spec_PipelineText_l7 l ((toB o ++ x3) ++ (((bs [40]) ++ r4) ++ (bs [41]))) (wi64 ((i : Int) + 1))) (none)) (none)) (none)) <|
            sif (x.2.2)
             (sif (joins (toB o ++ x3) (bs [63])) (spec_PipelineText_l7 l ((toB o ++ x3) ++ (bs [63])) (wi64 ((i : Int) + 1))) (none)) <|
            spec_PipelineText_l7 l (toB o ++ x3) (wi64 ((i : Int) + 1))) (none)) (none)) = spec_PipelineText_l7 l (toB (o ++ flT x)) ((i + 1 : Nat) : Int) := fun i x o hf hi ho => by
    obtain ⟨g1, g2, g3⟩ := fOk_in hf
    have a := wd_len x.1
    have b := itI_len (n := x.2.1) (by omega)
    rw [spec_l19Words_eq, sbind_some]
    show sif (lt3 0 x.1 ((wdL.map toB).length : Int)) (sbind ((wdL.map toB)[x.1.toNat]?) _) none = _
    rw [sif_pos (lt3_ok (by omega) (by show x.1 < 6; omega)), wd_at g1.1 g1.2, sbind_some, sif_pos (joinsT (by omega)), toB_append, wi64_add1 (by omega), flT, pmI, e1, e2, e3]
    by_cases hp : x.2.1 > 0
    · rw [sif_t hp, if_pos hp, spec_dig_some _ (by omega), sbind_some, sif_pos (joinsT (by simp; omega)), toB_append, sif_pos (joinsT (by simp; omega)), toB_append, sif_pos (joinsT (by simp; omega)), toB_append]
      cases x.2.2 with
      | false => rw [sif_false, if_neg (by simp)]; simp
      | true => rw [sif_true, if_pos rfl, sif_pos (joinsT (by simp; omega)), toB_append]; simp
    · rw [sif_f hp, if_neg hp]
      cases x.2.2 with
      | false => rw [sif_false, if_neg (by simp)]; simp
      | true => rw [sif_true, if_pos rfl, sif_pos (joinsT (by simp; omega)), toB_append]; simp
  have k := loop_up l (fun i (o : List Int) => spec_PipelineText_l7 l (toB o) (i : Int)) (fun r o => some (toB (o ++ jnT [43] (r.map flT)))) (fun i o => 1 ≤ i ∧ o.length ≤ i * 40)
    (fun o hI => by rw [spec_PipelineText_l7_eq, sif_f (by omega)]; simp [jnT])
    (fun i x r o hx hi hdr hI ih => by
      have hb := h2 x (mem_of_at hx)
      have a1 := fl_len hb
      rw [spec_PipelineText_l7_eq, sif_t (by omega), idx_some hx, sbind_some, sif_t (by omega), e4, sif_pos (joinsT (by simp; omega)), toB_append]
      rw [wd i x (o ++ [43]) hb (by omega) (by simp; omega), ih _ ⟨by omega, by simp; omega⟩]
      simp [jnT])
  unfold plT
  cases l with
  | nil => rw [spec_PipelineText_l7_eq]; rfl
  | cons x r =>
    have hb := h2 x (by simp)
    have a1 := fl_len hb
    have h3 := k 1 (flT x) (by simp) ⟨by omega, by omega⟩
    rw [spec_PipelineText_l7_eq, sif_t (by simp <;> omega), show idx (x :: r) 0 = some x from rfl, sbind_some, sif_f (by omega)]
    refine (wd 0 x [] hb (by omega) (by simp)).trans ?_
    exact h3
def ptM (l : List (Int × Int × Bool)) : ByteArray := if plM l = true then (if l.length = 0 then bs [110, 111, 110, 101] else toB (plT l)) else bs []
theorem spec_pt_some (l : List (Int × Int × Bool)) (hn : l.length ≤ 1048576) : spec_PipelineText l = some (ptM l) := by
  rw [spec_PipelineText_eq, spec_pl_some l hn, sbind_some, ptM]
  cases h : plM l with
  | false => rfl
  | true =>
    rw [Bool.not_true, sif_false, if_pos rfl]
    by_cases h0 : l.length = 0
    · rw [if_pos h0, sif_pos (by rw [beq_iff_eq]; omega)]
    · rw [if_neg h0, sif_neg (by rw [beq_eq_false_iff_ne]; omega), spec_pt_loop l h]
theorem impl_pt_some (l : List (Int × Int × Bool)) (hn : l.length ≤ 1048576) : impl_PipelineText l = some (ptM l) := by
  rw [impl_PipelineText_eq, impl_pl_some l hn, sbind_some, ptM]
  cases h : plM l with
  | false => rfl
  | true =>
    rw [Bool.not_true, sif_false, if_pos rfl, impl_pipelineText_eq]
    by_cases h0 : l.length = 0
    · rw [if_pos h0, sif_pos (by rw [beq_iff_eq]; omega), sbind_some]
    · rw [if_neg h0, sif_neg (by rw [beq_eq_false_iff_ne]; omega), impl_pt_loop l h, sbind_some]
theorem pure_FnExactPipelineText (aList : List (Int × Int × Bool)) (O0 : aList.length ≤ maxLen ∧ aList.length * 24 ≤ 140737488351232 ∧ ∀ e_ ∈ aList, ((Lit.int .i64 e_.1).wf = true) ∧ ((Lit.int .i64 e_.2.1).wf = true) ∧ (True)) : laws_FnExactPipelineText aList = some true := by
  rw [laws_FnExactPipelineText_eq]
  have hl : aList.length ≤ 140737488355328 := by have := O0.1; unfold maxLen at this; omega
  have h1 : laws_szFilterS aList 1048576 = _ := szFilterS_some aList 1048576 hl (by decide) (by decide)
  rw [h1, sbind_some]
  by_cases hb : ((aList.length : Nat) : Int) ≤ 1048576
  · rw [if_pos hb, sif_f (by omega)]
    have t0 : laws_toFilterS aList = some aList := toFilterS_some aList (by omega)
    have q0 : laws_eqFilterS aList aList = some true := eqFilterS_refl aList (by omega)
    simp only [t0, sbind_some, spec_pt_some aList (by omega), impl_pt_some aList (by omega), q0, seq_self, sif_false, Bool.not_true]
  · rw [if_neg hb]; rfl
end Go.Ve.X
