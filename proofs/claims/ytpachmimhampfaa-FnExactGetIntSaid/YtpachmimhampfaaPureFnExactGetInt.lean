/- GetInt of the program answers as the reference's, for all arguments. -/
import Derived.Test.YtpachmimhampfaaKit
import Derived.Test.YtpachmimhampfaaPFnExactGetIntx1
namespace Go.Proofs.Ytpachmimhampfaa.Pure
open Go.RowKit Go.Proofs.Ytpachmimhampfaa.PFnExactGetInt Go.Proofs.YtpachmimhampfaaW.PrintWords Go.Proofs.YtpachmimhampfaaW.PrintLast Go.Proofs.Ytpachmimhampfaa.Kit

/-! ### within -/
theorem within_eq (a b c : Int) : impl_within.f a b c = some (decide (b ≤ a ∧ a ≤ c)) := by
  unfold impl_within.f
  by_cases h : b ≤ a
  · rw [if_pos h]; simp [h]
  · rw [if_neg h]; simp [h]

/-! ### cut -/
theorem cut_yes (s : ByteArray) (a n : Int) (hs : s.size ≤ 140737488351232) (h0 : 0 ≤ n) (h1 : 0 ≤ a) (h2 : a + n ≤ s.size) :
    impl_cut.f s a n = some (s.extract a.toNat (a + n).toNat, true) := by
  unfold impl_cut.f
  rw [if_neg (by omega), w64 (by omega) (by omega), within_eq, w64 (by omega) (by omega)]
  simp only [obind]
  rw [if_pos (by simp; omega), if_pos h1, if_pos (by omega), if_pos h2]
theorem cut_no (s : ByteArray) (a n : Int) (hs : s.size ≤ 140737488351232) (hn : -9223372036854775808 ≤ n ∧ n ≤ 9223372036854775807)
    (h : n < 0 ∨ a < 0 ∨ s.size < a + n) : impl_cut.f s a n = some ((⟨#[]⟩ : ByteArray), false) := by
  unfold impl_cut.f
  by_cases hn0 : n < 0
  · rw [if_pos hn0]
  · rw [if_neg hn0, w64 (by omega) (by omega), within_eq]
    simp only [obind]
    rw [if_neg (by simp; omega)]

/-! ### sizeOk -/
theorem sizeOk_eq (n : Int) : impl_sizeOk.f n = some (decide (1 ≤ n ∧ n ≤ 8)) := by
  unfold impl_sizeOk.f
  simp only [within_eq, obind]

/-! ### getBits -/
theorem getBits_l0 (s : ByteArray) (hs : s.size ≤ 8) (d : Nat) : ∀ (k i : Nat), i + d = s.size → d < k →
    impl_getBits.l0 k s (le s 0 i) s.size i = some (le s 0 s.size) := by
  induction d with
  | zero =>
    intro k i hi hk
    obtain ⟨k, rfl⟩ : ∃ m, k = m + 1 := ⟨k - 1, by omega⟩
    simp only [impl_getBits.l0]
    rw [if_neg (by omega), show i = s.size by omega]
  | succ d ih =>
    intro k i hi hk
    obtain ⟨k, rfl⟩ : ∃ m, k = m + 1 := ⟨k - 1, by omega⟩
    simp only [impl_getBits.l0]
    rw [if_pos (by omega), if_pos (by omega), if_pos (by omega), w64 (x := 8 * (i : Int)) (by omega) (by omega), if_pos (by omega), w64 (x := (i : Int) + 1) (by omega) (by omega)]
    obtain ⟨b0, b1⟩ := bt_range s i
    obtain ⟨l0, l1⟩ := le_bd s 0 i
    rw [wrap_u64, Int.emod_eq_of_lt b0 (by omega)]
    rw [or_shl_byte (le s 0 i) (bt s i) i (by omega) l0 l1 b0 b1]
    have := ih k (i + 1) (by omega) (by omega)
    rw [← this]
    simp [le]
theorem getBits_eq (s : ByteArray) (hs : s.size ≤ 8) (k : Nat) (hk : 8 < k) : impl_getBits.f k s = some (le s 0 s.size) := by
  unfold impl_getBits.f
  exact getBits_l0 s hs s.size k 0 (by omega) (by omega)

/-! ### signed -/
theorem signed_arith (t p P : Int) (hP : 0 < P) (hp : p * P = 18446744073709551616) (t0 : 0 ≤ t) (t1 : t < p) :
    wrap64 ((t * P) % 18446744073709551616) / P = if p ≤ 2 * t then t - p else t := by
  have h0 : 0 ≤ t * P := Int.mul_nonneg t0 (by omega)
  have h1 : t * P < p * P := Int.mul_lt_mul_of_pos_right t1 hP
  rw [Int.emod_eq_of_lt h0 (by rw [hp] at h1; exact h1)]
  by_cases hc : p ≤ 2 * t
  · have h2 : p * P ≤ 2 * t * P := Int.mul_le_mul_of_nonneg_right hc (by omega)
    rw [Int.mul_assoc] at h2
    have e : wrap64 (t * P) = (t - p) * P := by
      rw [Int.sub_mul, hp]
      rw [hp] at h1 h2
      clear hp
      generalize t * P = x at *
      unfold wrap64
      omega
    rw [if_pos hc, e, Int.mul_ediv_cancel _ (by omega)]
  · have h2 : 2 * t * P < p * P := Int.mul_lt_mul_of_pos_right (by omega) hP
    rw [Int.mul_assoc] at h2
    rw [hp] at h1 h2
    clear hp
    rw [if_neg hc, w64 (by omega) (by omega), Int.mul_ediv_cancel _ (by omega)]
theorem signed_pow (n : Nat) (h : n ≤ 8) : (256 : Int) ^ n * 2 ^ (64 - 8 * n) = 18446744073709551616 := by
  rw [pow256, ← Int.pow_add, show 8 * n + (64 - 8 * n) = 64 by omega]
  rfl
theorem signed_shifts (t : Int) (n : Nat) (hm : min (64 - 8 * (n : Int)).toNat 64 = 64 - 8 * n) :
    shr .i64 (wrap64 (shl .u64 t (64 - 8 * (n : Int)))) (64 - 8 * (n : Int)) = wrap64 ((t * 2 ^ (64 - 8 * n)) % 18446744073709551616) / 2 ^ (64 - 8 * n) := by
  unfold shl shr
  rw [wrap_u64]
  simp only [IntKind.bits, hm]
theorem signed_eq (s : ByteArray) (h1 : 1 ≤ s.size) (h8 : s.size ≤ 8) (k : Nat) (hk : 8 < k) :
    impl_signed.f k s = some (if 256 ^ s.size ≤ 2 * le s 0 s.size then le s 0 s.size - 256 ^ s.size else le s 0 s.size) := by
  unfold impl_signed.f
  rw [getBits_eq s h8 k hk]
  simp only [obind]
  obtain ⟨l0, l1⟩ := le_bd s 0 s.size
  generalize le s 0 s.size = t at *
  generalize s.size = n at *
  rw [w64 (x := 8 * (n : Int)) (by omega) (by omega), w64 (x := 64 - 8 * (n : Int)) (by omega) (by omega), if_pos (by omega)]
  rw [signed_shifts t n (by clear l0 l1; omega), signed_arith t (256 ^ n) (2 ^ (64 - 8 * n)) (Int.pow_pos (by decide)) (signed_pow n h8) l0 l1]

/-! ### implGetInt -/
/-- What GetInt answers. -/
def sintAt (s : ByteArray) (a n : Int) : Int × Bool :=
  if 1 ≤ n ∧ n ≤ 8 ∧ 0 ≤ a ∧ a + n ≤ s.size then (if 256 ^ n.toNat ≤ 2 * le s a n.toNat then le s a n.toNat - 256 ^ n.toNat else le s a n.toNat, true) else (0, false)
theorem implGetInt_eq (s : ByteArray) (a n : Int) (hs : s.size ≤ 140737488351232) (hn : -9223372036854775808 ≤ n ∧ n ≤ 9223372036854775807) (k : Nat) (hk : 8 < k) :
    impl_GetInt.f k s a n = some (sintAt s a n) := by
  unfold impl_GetInt.f sintAt
  by_cases h : 0 ≤ n ∧ 0 ≤ a ∧ a + n ≤ s.size
  · rw [cut_yes s a n hs (by omega) (by omega) (by omega)]
    simp only [obind, sizeOk_eq, if_true]
    by_cases h8 : 1 ≤ n ∧ n ≤ 8
    · have he : (s.extract a.toNat (a + n).toNat).size = n.toNat := by rw [size_extract] <;> omega
      have hl : le (s.extract a.toNat (a + n).toNat) 0 n.toNat = le s a n.toNat := by
        have := le_extract s a.toNat (a + n).toNat (by omega) n.toNat (by omega)
        rw [this, Int.toNat_of_nonneg (by omega)]
      rw [if_pos (by simpa using h8), signed_eq _ (by omega) (by omega) k hk, he, hl, if_pos (show 1 ≤ n ∧ n ≤ 8 ∧ 0 ≤ a ∧ a + n ≤ s.size by omega)]
      simp only [obind]
    · rw [if_neg (by simpa using h8), if_neg (by omega)]
  · rw [cut_no s a n hs hn (by omega)]
    simp only [obind]
    rw [if_neg (by simp), if_neg (by omega)]

/-! ### l00In -/
theorem l00In_eq (a b c : Int) : spec_l00In.f a b c = some (decide (b ≤ a ∧ a ≤ c)) := by
  unfold spec_l00In.f
  by_cases h : b ≤ a
  · rw [if_pos h]; simp [h]
  · rw [if_neg h]; simp [h]

/-! ### specWithin -/
theorem specWithin_eq (s : ByteArray) (a n : Int) (hs : s.size ≤ 140737488351232) :
    spec_l01Within.f s a n = some (decide (1 ≤ n ∧ n ≤ 8 ∧ 0 ≤ a ∧ a + n ≤ s.size)) := by
  unfold spec_l01Within.f
  simp only [l00In_eq, obind, decide_eq_true_eq]
  by_cases h1 : 1 ≤ n ∧ n ≤ 8
  · rw [if_pos h1]
    by_cases h2 : 0 ≤ a ∧ a ≤ s.size
    · rw [if_pos h2, w64 (by omega) (by omega)]
      congr 1
      simp only [decide_eq_decide]
      omega
    · rw [if_neg h2]
      congr 1
      symm
      simp only [decide_eq_false_iff_not]
      omega
  · rw [if_neg h1]
    congr 1
    symm
    simp only [decide_eq_false_iff_not]
    omega

/-! ### specGetInt -/
theorem specGetInt_l0 (s : ByteArray) (a : Int) (hs : s.size ≤ 140737488351232) (ha : 0 ≤ a) : ∀ (j k : Nat) (acc : Int), a + j ≤ s.size → j < k → -9223372036854775808 ≤ acc → acc ≤ 9223372036854775807 →
    spec_GetInt.l0 k s a acc ((j : Int) - 1) = some (wrap64 (acc * 256 ^ j + le s a j), true)
  | 0, k, acc, hj, hk, h0, h1 => by
    obtain ⟨k, rfl⟩ : ∃ m, k = m + 1 := ⟨k - 1, by omega⟩
    simp only [spec_GetInt.l0]
    rw [if_neg (by omega)]
    simp only [le, Int.pow_zero, Int.mul_one, Int.add_zero]
    rw [w64 h0 h1]
  | j + 1, k, acc, hj, hk, h0, h1 => by
    obtain ⟨k, rfl⟩ : ∃ m, k = m + 1 := ⟨k - 1, by omega⟩
    simp only [spec_GetInt.l0]
    obtain ⟨b0, b1⟩ := bt_range s (a + j)
    have e : acc * 256 ^ (j + 1) + le s a (j + 1) = (acc * 256 + bt s (a + j)) * 256 ^ j + le s a j := by
      simp only [le, Int.pow_succ]
      rw [Int.add_mul, Int.mul_assoc acc 256, Int.mul_comm 256]
      omega
    have e1 : ((j + 1 : Nat) : Int) - 1 = (j : Int) := by omega
    rw [e1, if_pos (by omega), w64 (x := a + (j : Int)) (by omega) (by omega), if_pos (by omega), if_pos (by omega)]
    have hb : Go.bits .or .i64 (wrap64 (acc * 256)) (wrap64 (bt s (a + j))) = wrap64 (acc * 256 + bt s (a + j)) := by
      rw [w64 (x := bt s (a + j)) (by omega) (by omega), bits_or_add .i64 _ _ 8 (by unfold wrap64; omega) (by omega) (by omega), wrap_i64', wrap64_add]
    have hw := wrap64_bd (acc * 256 + bt s (a + j))
    rw [hb, w64 (x := (j : Int) - 1) (by omega) (by omega), specGetInt_l0 s a hs ha j k _ (by omega) (by omega) (by omega) (by omega), wrap64_mul_add, e]
theorem topn (s : ByteArray) (a : Int) (n : Nat) : (127 < bt s (a + n)) ↔ 256 ^ (n + 1) ≤ 2 * le s a (n + 1) := by
  obtain ⟨l0, l1⟩ := le_bd s a n
  obtain ⟨b0, b1⟩ := bt_range s (a + n)
  simp only [le, Int.pow_succ]
  have hp : (0 : Int) < 256 ^ n := Int.pow_pos (by decide)
  generalize (256 : Int) ^ n = p at *
  constructor
  · intro h
    have : 128 * p ≤ bt s (a + n) * p := Int.mul_le_mul_of_nonneg_right (by omega) (by omega)
    omega
  · intro h
    by_cases hc : 127 < bt s (a + n)
    · exact hc
    · have : bt s (a + n) * p ≤ 127 * p := Int.mul_le_mul_of_nonneg_right (by omega) (by omega)
      omega
theorem specGetInt_eq (s : ByteArray) (a n : Int) (hs : s.size ≤ 140737488351232) (k : Nat) (hk : 10 < k) :
    spec_GetInt.f k s a n = some (sintAt s a n) := by
  unfold spec_GetInt.f sintAt
  rw [specWithin_eq s a n hs]
  obtain ⟨k, rfl⟩ : ∃ m, k = m + 1 := ⟨k - 1, by omega⟩
  simp only [obind, decide_eq_true_eq, spec_GetInt.j0]
  by_cases h : 1 ≤ n ∧ n ≤ 8 ∧ 0 ≤ a ∧ a + n ≤ s.size
  · rw [if_pos h, if_pos h]
    obtain ⟨j, rfl⟩ : ∃ j : Nat, n = (j : Int) + 1 := ⟨n.toNat - 1, by omega⟩
    have e1 : ((j : Int) + 1).toNat = j + 1 := by omega
    have ht := topn s a j
    obtain ⟨l0, l1⟩ := le_bd s a (j + 1)
    have hp : (256 : Int) ^ (j + 1) ≤ 256 ^ 8 := pow_mono (by decide) (by omega)
    have hl := fun acc h0 h1 => specGetInt_l0 s a hs (by omega) (j + 1) k acc (by omega) (by omega) h0 h1
    rw [e1, w64 (x := a + ((j : Int) + 1)) (by omega) (by omega), w64 (x := (a + ((j : Int) + 1)) - 1) (by omega) (by omega), if_pos (by omega), if_pos (by omega), w64 (x := ((j : Int) + 1) - 1) (by omega) (by omega)]
    have e2 : a + ((j : Int) + 1) - 1 = a + j := by omega
    have e3 : ((j : Int) + 1) - 1 = ((j + 1 : Nat) : Int) - 1 := by omega
    rw [e2, e3]
    by_cases hb : 127 < bt s (a + j)
    · rw [if_pos hb, hl _ (by omega) (by omega), if_pos (ht.1 hb), w64 (by omega) (by omega)]
      congr 2
      omega
    · rw [if_neg hb, hl _ (by omega) (by omega), if_neg (fun h => hb (ht.2 h)), w64 (by omega) (by omega)]
      congr 2
      omega
  · rw [if_neg h, if_neg h]

theorem FnExactGetInt : laws_FnExactGetInt.Pure := by
  intro s a n hs ha hn
  refine ⟨20, ?_⟩
  unfold laws_FnExactGetInt.f
  split
  · rfl
  · rw [specGetInt_eq s a n hs 20 (by omega), implGetInt_eq s a n hs (bd64 hn) 20 (by omega)]
    simp

end Go.Proofs.Ytpachmimhampfaa.Pure
