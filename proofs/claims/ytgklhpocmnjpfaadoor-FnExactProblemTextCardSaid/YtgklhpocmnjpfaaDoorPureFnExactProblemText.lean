/- What 'FnExactProblemText' comes to, in plain words over numbers, texts and lists: each function that it reaches answers what is told; put together, the law answers true. No condition but the sizes that come in. -/
import Derived.Test.YtgklhpocmnjpfaaDoorEqFnExactProblemText
namespace Go.Ve.X
open Go.Ve
set_option linter.all false
set_option maxRecDepth 100000
theorem toProblem_some (x : Int × Int) : laws_toProblem x.1 x.2 = some (x.1, x.2) := by
  rw [laws_toProblem_eq]
/-! bytesL -/
theorem bidx_ofB (s : ByteArray) (i : Int) : bidx s i = idx (Ve.ofB s) i := by
  unfold bidx idx
  split
  · unfold Ve.ofB
    rw [List.getElem?_map]
    congr 1
    rw [Array.getElem?_toList, getElem?_def, getElem?_def]
    rfl
  · rfl
def inB (l : List Int) : Prop := ∀ x ∈ l, 0 ≤ x ∧ x ≤ 255
theorem ofB_inB (s : ByteArray) : inB (Ve.ofB s) := by
  intro x hx
  unfold Ve.ofB at hx
  obtain ⟨b, _, rfl⟩ := List.mem_map.1 hx
  have := b.toNat_lt
  omega
theorem toB_ofB (s : ByteArray) : Ve.toB (Ve.ofB s) = s := by
  unfold Ve.toB Ve.ofB
  rw [List.map_map]
  have : ((fun n : Int => UInt8.ofNat n.toNat) ∘ fun b : UInt8 => (b.toNat : Int)) = id := by funext b; simp
  rw [this, List.map_id]
theorem ofB_toB {l : List Int} (h : inB l) : Ve.ofB (Ve.toB l) = l := by
  unfold Ve.toB Ve.ofB
  simp only [List.map_map]
  conv => rhs; rw [← List.map_id l]
  refine List.map_congr_left (fun x hx => ?_)
  have := h x hx
  simp only [Function.comp, id]
  rw [UInt8.toNat_ofNat']
  omega
theorem bits_and_u64 (a : Int) : 0 ≤ bits .and .u64 a 255 ∧ bits .and .u64 a 255 ≤ 255 := by
  have h : ∀ x : BitVec 64, (x &&& 255#64).toNat ≤ 255 := fun x => by rw [BitVec.toNat_and]; exact Nat.and_le_right
  have := h (BitVec.ofInt 64 a)
  have e : bits .and .u64 a 255 = wu64 (((BitVec.ofInt 64 a) &&& 255#64).toNat : Int) := rfl
  rw [e, wu64_id (by omega) (by omega)]
  omega
/-! leL -/
def leN : List Int → Int
  | [] => 0
  | b :: r => b + 256 * leN r
theorem leN_ge : ∀ {l : List Int}, inB l → 0 ≤ leN l
  | [], _ => by simp [leN]
  | b :: r, h => by
    have := leN_ge (l := r) (fun x hx => h x (by simp [hx])); have := h b (by simp); simp only [leN]; omega
theorem leN_lt : ∀ {l : List Int}, inB l → leN l < 256 ^ l.length
  | [], _ => by simp [leN]
  | b :: r, h => by
    have := leN_lt (l := r) (fun x hx => h x (by simp [hx])); have := h b (by simp)
    simp only [leN, List.length_cons, Int.pow_succ]; omega
theorem leN_append : ∀ (a b : List Int), leN (a ++ b) = leN a + 256 ^ a.length * leN b
  | [], b => by simp [leN]
  | x :: a, b => by
    simp only [List.cons_append, leN, leN_append a b, List.length_cons, Int.pow_succ]
    rw [Int.mul_add, Int.mul_comm (256 ^ a.length) 256, Int.mul_assoc]; omega
theorem inB_take {l : List Int} (h : inB l) (n : Nat) : inB (l.take n) := fun x hx => h x (List.mem_of_mem_take hx)
theorem inB_drop {l : List Int} (h : inB l) (n : Nat) : inB (l.drop n) := fun x hx => h x (List.mem_of_mem_drop hx)
theorem leN_drop {l : List Int} (h : inB l) : ∀ n, leN (l.drop n) ≤ leN l := by
  induction l with
  | nil => intro n; simp
  | cons b r ih =>
    intro n
    cases n with
    | zero => simp
    | succ n =>
      have h1 := ih (fun x hx => h x (by simp [hx])) n
      have h2 := leN_ge (l := r) (fun x hx => h x (by simp [hx]))
      have h3 := h b (by simp)
      simp only [List.drop_succ_cons, leN]; omega
def leB (n : Int) (k : Nat) : List Int := (List.range k).map (fun i => wu8 (Int.fdiv n (2 ^ (8 * i))))
theorem leB_len (n : Int) (k : Nat) : (leB n k).length = k := by simp [leB]
theorem leB_in (n : Int) (k : Nat) : inB (leB n k) := by
  intro x hx
  obtain ⟨i, _, rfl⟩ := List.mem_map.1 hx
  rw [wu8_def]; omega
theorem fdiv_shift (n : Int) (i : Nat) : Int.fdiv n (2 ^ (8 * (i + 1))) = Int.fdiv (Int.fdiv n 256) (2 ^ (8 * i)) := by
  rw [Int.fdiv_eq_ediv_of_nonneg _ (Int.pow_nonneg (by decide)), Int.fdiv_eq_ediv_of_nonneg _ (Int.pow_nonneg (by decide)), Int.fdiv_eq_ediv_of_nonneg _ (by decide)]
  rw [Int.ediv_ediv_of_nonneg (by decide)]
  congr 1
  rw [Nat.mul_add, Int.pow_add, Int.mul_comm]; rfl
theorem leB_succ (n : Int) (k : Nat) : leB n (k + 1) = wu8 n :: leB (Int.fdiv n 256) k := by
  unfold leB
  rw [List.range_succ_eq_map, List.map_cons, List.map_map]
  congr 1
  · simp [Int.fdiv_one]
  · refine List.map_congr_left (fun i _ => ?_)
    simp only [Function.comp]
    rw [Nat.succ_eq_add_one, fdiv_shift]
theorem leN_leB : ∀ (k : Nat) (n : Int), 0 ≤ n → n < 256 ^ k → leN (leB n k) = n
  | 0, n, h0, h1 => by simp at h1; simp [leB, leN]; omega
  | k + 1, n, h0, h1 => by
    rw [Int.pow_succ] at h1
    rw [leB_succ, leN, Int.fdiv_eq_ediv_of_nonneg _ (by decide), leN_leB k (n / 256) (by omega) (by omega), wu8_def]
    omega
theorem or_add {x b k : Nat} (h : x < 2 ^ k) : x ||| (b * 2 ^ k) = x + b * 2 ^ k := by
  have := Nat.shiftLeft_add_eq_or_of_lt h b
  rw [Nat.shiftLeft_eq] at this
  rw [Nat.or_comm, ← this, Nat.add_comm]
theorem bits_or_nat {x y : Nat} (hx : x < 18446744073709551616) (hy : y < 18446744073709551616) : bits .or .u64 (x : Int) (y : Int) = ((x ||| y : Nat) : Int) := by
  have e : bits .or .u64 (x : Int) (y : Int) = wu64 (((BitVec.ofInt 64 (x : Int)) ||| (BitVec.ofInt 64 (y : Int))).toNat : Int) := rfl
  have hxy : x ||| y < 2 ^ 64 := Nat.or_lt_two_pow hx hy
  rw [e, BitVec.toNat_or, BitVec.ofInt_natCast, BitVec.ofInt_natCast, BitVec.toNat_ofNat, BitVec.toNat_ofNat, Nat.mod_eq_of_lt hx, Nat.mod_eq_of_lt hy, wu64_id (by omega) (by omega)]
theorem or_step {n b : Int} {i : Nat} (hi : i ≤ 7) (h0 : 0 ≤ n) (h1 : n < 256 ^ i) (b0 : 0 ≤ b) (b1 : b ≤ 255) : bits .or .u64 n (wu64 ((wu64 b) * 2 ^ (min (wi64 (8 * (i : Int))).toNat 64))) = n + 256 ^ i * b := by
  rw [wi64_id (by omega) (by omega), wu64_id (n := b) (by omega) (by omega)]
  have hm : min (8 * (i : Int)).toNat 64 = 8 * i := by omega
  rw [hm]
  have hp : (256 : Int) ^ i = 2 ^ (8 * i) := by rw [Int.pow_mul]; rfl
  have hpn : ((2 ^ (8 * i) : Nat) : Int) = 2 ^ (8 * i) := by push_cast; rfl
  have hle : (2 : Nat) ^ (8 * i) ≤ 2 ^ 56 := Nat.pow_le_pow_right (by decide) (by omega)
  obtain ⟨bn, rfl⟩ : ∃ bn : Nat, b = bn := ⟨b.toNat, by omega⟩
  obtain ⟨nn, rfl⟩ : ∃ nn : Nat, n = nn := ⟨n.toNat, by omega⟩
  rw [hp, ← hpn] at h1
  have hmul : bn * 2 ^ (8 * i) ≤ 255 * 2 ^ 56 := Nat.mul_le_mul (by omega) hle
  rw [hp, ← hpn, ← Int.natCast_mul, wu64_id (by omega) (by omega), bits_or_nat (by omega) (by omega), or_add (by omega)]
  push_cast
  rw [Int.mul_comm]
theorem wu8_and (m : Int) : wu8 (bits .and .i64 m 255) = wu8 m := by
  have e : bits .and .i64 m 255 = wi64 (((BitVec.ofInt 64 m) &&& 255#64).toNat : Int) := rfl
  have h : ∀ x : BitVec 64, (x &&& 255#64).toNat = x.toNat % 256 := fun x => by
    rw [BitVec.toNat_and]; exact Nat.and_two_pow_sub_one_eq_mod x.toNat 8
  rw [e, h, BitVec.toNat_ofInt, wi64_id (by omega) (by omega), wu8_def, wu8_def]
  omega
theorem toB_append (a b : List Int) : toB a ++ toB b = toB (a ++ b) := by
  unfold toB
  apply ByteArray.ext
  simp
theorem joinsT {a b : List Int} (h : a.length + b.length ≤ 4611686018427387904) : joins (toB a) (toB b) = true := joins_ok (by rw [toB_size, toB_size]; omega)
theorem extract_toB (l : List Int) (i j : Nat) : (toB l).extract i j = toB ((l.take j).drop i) := by
  unfold toB
  apply ByteArray.ext
  simp [ByteArray.data_extract, List.map_take, List.map_drop, List.drop_take]
theorem bidx_toB {l : List Int} (h : inB l) {i : Int} (h0 : 0 ≤ i) : bidx (toB l) i = l[i.toNat]? := by rw [bidx_ofB, ofB_toB h, idx_int h0]
theorem toB_inj {a b : List Int} (ha : inB a) (hb : inB b) (h : toB a = toB b) : a = b := by rw [← ofB_toB ha, h, ofB_toB hb]
theorem seq_toB {a b : List Int} (ha : inB a) (hb : inB b) : seq (toB a) (toB b) = decide (a = b) := by
  rw [seq_eq, Bool.eq_iff_iff]
  simp only [decide_eq_true_eq]
  exact ⟨toB_inj ha hb, fun h => by rw [h]⟩
/-! within -/
theorem spec_l00In_some (n lo hi : Int) : spec_l00In n lo hi = some (inr n lo hi) := by rw [spec_l00In_eq, inr_sif]
theorem impl_within_some (n lo hi : Int) : impl_within n lo hi = some (inr n lo hi) := by rw [impl_within_eq, inr_sif]
/-! decL -/
/-! decimals -/
def decI (u : Nat) : List Int := if h : u < 10 then [48 + (u : Int)] else decI (u / 10) ++ [48 + ((u % 10 : Nat) : Int)]
termination_by u
decreasing_by omega
theorem decI_small {u : Nat} (h : u < 10) : decI u = [48 + (u : Int)] := by rw [decI, dif_pos h]
theorem decI_big {u : Nat} (h : ¬ u < 10) : decI u = decI (u / 10) ++ [48 + ((u % 10 : Nat) : Int)] := by rw [decI, dif_neg h]
theorem decI_pos (u : Nat) : 0 < (decI u).length := by
  by_cases h : u < 10
  · rw [decI_small h]; simp
  · rw [decI_big h, List.length_append]; simp
theorem decI_len : ∀ (k u : Nat), u < 10 ^ (k + 1) → (decI u).length ≤ k + 1
  | 0, u, h => by rw [decI_small (by simpa using h)]; simp
  | k + 1, u, h => by
    by_cases h1 : u < 10
    · rw [decI_small h1]; simp
    · rw [decI_big h1, List.length_append, List.length_singleton]
      have := decI_len k (u / 10) (by rw [Nat.div_lt_iff_lt_mul (by decide)]; rw [Nat.pow_succ] at h; exact h)
      omega
theorem decI_in : ∀ (u : Nat), ∀ x ∈ decI u, 48 ≤ x ∧ x ≤ 57 := by
  intro u
  induction u using Nat.strongRecOn with
  | _ u ih =>
    intro x hx
    by_cases h : u < 10
    · rw [decI_small h, List.mem_singleton] at hx; omega
    · rw [decI_big h, List.mem_append, List.mem_singleton] at hx
      rcases hx with hx | hx
      · exact ih (u / 10) (by omega) x hx
      · omega
/-- the text of a number -/
def itI (n : Int) : List Int := if n < 0 then 45 :: decI n.natAbs else decI n.toNat
theorem itI_pos (n : Int) : 0 < (itI n).length := by
  unfold itI
  split
  · simp
  · exact decI_pos _
theorem itI_len {n : Int} (h : -9223372036854775808 ≤ n ∧ n ≤ 9223372036854775807) : (itI n).length ≤ 20 := by
  unfold itI
  split
  · rw [List.length_cons]; have := decI_len 18 n.natAbs (by omega); omega
  · have := decI_len 18 n.toNat (by omega); omega
theorem itI_nat {n : Int} (h : 0 ≤ n) : itI n = decI n.toNat := by unfold itI; rw [if_neg (by omega)]
theorem decI_lib : ∀ (u : Nat), (decI u).map (fun n => UInt8.ofNat n.toNat) = Lib.decDigits u := by
  intro u
  induction u using Nat.strongRecOn with
  | _ u ih =>
    rw [Lib.decDigits]
    by_cases h : u < 10
    · rw [decI_small h, dif_pos h]
      show [UInt8.ofNat ((48 : Int) + (u : Int)).toNat] = _
      congr 2
    · rw [decI_big h, dif_neg h, List.map_append, ih (u / 10) (by omega)]
      congr 1
theorem itI_lib (n : Int) : (⟨(Lib.itoa n).toArray⟩ : ByteArray) = toB (itI n) := by
  have e : (itI n).map (fun n => UInt8.ofNat n.toNat) = Lib.itoa n := by
    unfold itI Lib.itoa
    split
    · rw [List.map_cons, decI_lib]; rfl
    · exact decI_lib _
  unfold toB
  rw [e]
theorem impl_decimal_some (n : Int) (h : -9223372036854775808 ≤ n ∧ n ≤ 9223372036854775807) : impl_decimal n = some (toB (itI n)) := by
  rw [impl_decimal_eq, strconv_FormatInt_eq, fmtInt, if_pos ⟨rfl, h.1, h.2⟩, sbind_some, itI_lib]
theorem spec_dec_loop (n : Int) (hn : 0 ≤ n) : ∀ (r : Nat) (o : List Int), o ≠ [] → o.length + r ≤ 4611686018427387904 → spec_l02Dec_l3 n (toB o) (r : Int) = some (toB (if r = 0 then o else decI r ++ o)) := by
  intro r
  induction r using Nat.strongRecOn with
  | _ r ih =>
    intro o ho hb
    have hne : seq (toB o) (bs []) = false := by
      cases hq : seq (toB o) (bs []) with
      | false => rfl
      | true =>
        have := congrArg ByteArray.size (seq_iff.1 hq)
        rw [toB_size, bs_size] at this
        exact absurd (List.length_eq_zero_iff.1 this) ho
    rw [spec_l02Dec_l3_eq, hne, sif_false]
    by_cases h0 : r = 0
    · subst h0
      rw [if_pos rfl, show ((((0 : Nat) : Int)) != 0) = false from rfl, sif_false, sif_f (by omega)]
    · have hm : Int.tmod (r : Int) 10 = ((r % 10 : Nat) : Int) := rfl
      have hd : Int.tdiv (r : Int) 10 = ((r / 10 : Nat) : Int) := rfl
      rw [sif_pos (by rw [bne_iff_ne]; omega), hm, hd, sif_f (by omega), wi64_id (n := 48 + _) (by omega) (by omega), spec_l02Byte_eq, wu8_id (by omega) (by omega), sbind_some, sif_pos (joinsT (by rw [List.length_singleton]; omega)), toB_append, wi64_id (by omega) (by omega), ih (r / 10) (by omega) _ (by simp) (by rw [List.length_append, List.length_singleton]; omega), if_neg h0]
      by_cases h1 : r < 10
      · rw [if_pos (by omega), decI_small h1, show r % 10 = r by omega]
      · rw [if_neg (by omega), decI_big h1, List.append_assoc]
theorem spec_dec_some (n : Int) (h : 0 ≤ n) (h' : n ≤ 9223372036854775807) : spec_l02Dec n = some (toB (itI n)) := by
  obtain ⟨r, rfl⟩ : ∃ r : Nat, n = (r : Int) := ⟨n.toNat, by omega⟩
  have hm : Int.tmod (r : Int) 10 = ((r % 10 : Nat) : Int) := rfl
  have hd : Int.tdiv (r : Int) 10 = ((r / 10 : Nat) : Int) := rfl
  rw [spec_l02Dec_eq, spec_l02Dec_l3_eq, seq_self, sif_true, hm, hd, sif_f (by omega), wi64_id (n := 48 + _) (by omega) (by omega), spec_l02Byte_eq, wu8_id (by omega) (by omega), sbind_some, show bs [] = toB [] from rfl, sif_pos (joinsT (by simp)), toB_append, wi64_id (by omega) (by omega), List.append_nil,
    spec_dec_loop _ h (r / 10) _ (by simp) (by simp; omega), itI_nat h, Int.toNat_natCast]
  by_cases h1 : r < 10
  · rw [if_pos (by omega), decI_small h1, show r % 10 = r by omega]
  · rw [if_neg (by omega), decI_big h1]
/-! FnExactProblemText -/
def wordsM : List ByteArray := [bs [], bs [114, 111, 111, 116], bs [111, 98, 106, 101, 99, 116], bs [103, 114, 111, 117, 112], bs [114, 101, 102, 115], bs [100, 97, 116, 97, 115, 101, 116], bs [105, 110, 100, 101, 120], bs [99, 104, 117, 110, 107], bs [97, 116, 116, 114, 105, 98, 117, 116, 101], bs [118, 105, 114, 116, 117, 97, 108], bs [115, 104, 97, 114, 101, 100], bs [102, 114, 101, 101], bs [108, 101, 97, 107]]
theorem words_at {k : Int} (h0 : 1 ≤ k) (h1 : k ≤ 12) : ∃ x, wordsM[k.toNat]? = some x ∧ x.size ≤ 9 := by
  have hk : k.toNat < wordsM.length := by show k.toNat < 13; omega
  refine ⟨wordsM[k.toNat], List.getElem?_eq_getElem hk, ?_⟩
  have ha : ∀ x ∈ wordsM, x.size ≤ 9 := by
    intro x hx
    simp only [wordsM, List.mem_cons, List.not_mem_nil, or_false] at hx
    rcases hx with rfl | rfl | rfl | rfl | rfl | rfl | rfl | rfl | rfl | rfl | rfl | rfl | rfl <;> rw [bs_size] <;> decide
  exact ha _ (List.getElem_mem hk)
def ptM (k b : Int) : ByteArray := if inr k 1 12 = true ∧ inr b 0 255 = true then (wordsM.getD k.toNat (bs []) ++ bs [32]) ++ toB (itI b) else bs []
theorem spec_pt_some (k b : Int) : spec_ProblemText k b = some (ptM k b) := by
  rw [spec_ProblemText_eq, spec_l00In_some, sbind_some, spec_l00In_some, sbind_some, ptM]
  cases hk : inr k 1 12 with
  | false => rw [if_neg (by simp)]; rfl
  | true =>
    cases hb : inr b 0 255 with
    | false => rw [if_neg (by simp)]; rfl
    | true =>
      obtain ⟨k0, k1⟩ := inr_iff.1 hk
      obtain ⟨b0, b1⟩ := inr_iff.1 hb
      obtain ⟨x, hx, hs⟩ := words_at k0 k1
      have hi := itI_len (n := b) (by omega)
      rw [if_pos ⟨rfl, rfl⟩, Bool.not_true, sif_false, sif_false, spec_l28Words_eq, sbind_some]
      show sif (lt3 0 k (wordsM.length : Int)) (sbind (wordsM[k.toNat]?) _) none = _
      rw [sif_pos (lt3_ok (by omega) (by show k < 13; omega)), hx, sbind_some, sif_pos (joins_ok (by rw [bs_size]; simp; omega)), spec_dec_some b b0 (by omega), sbind_some, sif_pos (joins_ok (by rw [ByteArray.size_append, bs_size, toB_size]; simp; omega)), List.getD_eq_getElem?_getD, hx]
      rfl
theorem impl_pt_some (k b : Int) : impl_ProblemText k b = some (ptM k b) := by
  rw [impl_ProblemText_eq, impl_within_some, sbind_some, impl_within_some, sbind_some, ptM]
  cases hk : inr k 1 12 with
  | false => rw [if_neg (by simp)]; rfl
  | true =>
    cases hb : inr b 0 255 with
    | false => rw [if_neg (by simp)]; rfl
    | true =>
      obtain ⟨k0, k1⟩ := inr_iff.1 hk
      obtain ⟨b0, b1⟩ := inr_iff.1 hb
      obtain ⟨x, hx, hs⟩ := words_at k0 k1
      have hi := itI_len (n := b) (by omega)
      rw [if_pos ⟨rfl, rfl⟩, Bool.not_true, sif_false, sif_false, impl_problemWords_eq, sbind_some]
      show sif (lt3 0 k (wordsM.length : Int)) (sbind (wordsM[k.toNat]?) _) none = _
      rw [sif_pos (lt3_ok (by omega) (by show k < 13; omega)), hx, sbind_some, sif_pos (joins_ok (by rw [bs_size]; simp; omega)), impl_decimal_some b (by omega), sbind_some, sif_pos (joins_ok (by rw [ByteArray.size_append, bs_size, toB_size]; simp; omega)), List.getD_eq_getElem?_getD, hx]
      rfl
theorem pure_FnExactProblemText (aX_Kind : Int) (aX_Block : Int) (O0 : ((Lit.int .i64 aX_Kind).wf = true) ∧ ((Lit.int .i64 aX_Block).wf = true)) : laws_FnExactProblemText aX_Kind aX_Block = some true := by
  rw [laws_FnExactProblemText_eq, laws_toProblem_eq, sbind_some]
  dsimp only
  rw [spec_pt_some, sbind_some, sbind_some, impl_pt_some, sbind_some, seq_self]
  rfl
end Go.Ve.X
