/- GetUint of the program answers as the reference's, for all arguments. -/
import Derived.Test.YtpachmimhampfaaKit
import Derived.Test.YtpachmimhampfaaPFnExactGetUintx1
namespace Go.Proofs.Ytpachmimhampfaa.Pure
open Go.RowKit Go.Proofs.Ytpachmimhampfaa.PFnExactGetUint Go.Proofs.YtpachmimhampfaaW.PrintWords Go.Proofs.YtpachmimhampfaaW.PrintLast Go.Proofs.Ytpachmimhampfaa.Kit

/-! ### within -/
theorem within_eq (a b c : Int) : impl_within.f a b c = some (decide (b ≤ a ∧ a ≤ c)) := by
  unfold impl_within.f
  by_cases h : b ≤ a
  · rw [if_pos h]; simp [h]
  · rw [if_neg h]; simp [h]

/-! ### cut -/
theorem cut_yes (s : ByteArray) (a n : Int) (hs : s.size ≤ 140737488351232) (h0 : 0 ≤ n) (h1 : 0 ≤ a) (h2 : a + n ≤ s.size) :
    impl_cut.f s a n = some (s.extract a.toNat (a + n).toNat, true) := by
  unfold impl_cut.f
  rw [if_neg (by omega), w64 (by omega) (by omega), within_eq, w64 (by omega) (by omega)]
  simp only [Option.bind_some]
  rw [if_pos (by simp; omega), if_pos h1, if_pos (by omega), if_pos h2]
theorem cut_no (s : ByteArray) (a n : Int) (hs : s.size ≤ 140737488351232) (hn : -9223372036854775808 ≤ n ∧ n ≤ 9223372036854775807)
    (h : n < 0 ∨ a < 0 ∨ s.size < a + n) : impl_cut.f s a n = some ((⟨#[]⟩ : ByteArray), false) := by
  unfold impl_cut.f
  by_cases hn0 : n < 0
  · rw [if_pos hn0]
  · rw [if_neg hn0, w64 (by omega) (by omega), within_eq]
    simp only [Option.bind_some]
    rw [if_neg (by simp; omega)]

/-! ### sizeOk -/
theorem sizeOk_eq (n : Int) : impl_sizeOk.f n = some (decide (1 ≤ n ∧ n ≤ 8)) := by
  unfold impl_sizeOk.f
  simp only [within_eq, Option.bind_some]

/-! ### getBits -/
theorem getBits_l0 (s : ByteArray) (hs : s.size ≤ 8) (d : Nat) : ∀ (k i : Nat), i + d = s.size → d < k →
    impl_getBits.l0 k s (le s 0 i) s.size i = some (le s 0 s.size) := by
  induction d with
  | zero =>
    intro k i hi hk
    obtain ⟨k, rfl⟩ : ∃ m, k = m + 1 := ⟨k - 1, by omega⟩
    simp only [impl_getBits.l0]
    rw [if_neg (by omega), show i = s.size by omega]
  | succ d ih =>
    intro k i hi hk
    obtain ⟨k, rfl⟩ : ∃ m, k = m + 1 := ⟨k - 1, by omega⟩
    simp only [impl_getBits.l0]
    rw [if_pos (by omega), if_pos (by omega), if_pos (by omega), w64 (x := 8 * (i : Int)) (by omega) (by omega), if_pos (by omega), w64 (x := (i : Int) + 1) (by omega) (by omega)]
    obtain ⟨b0, b1⟩ := bt_range s i
    obtain ⟨l0, l1⟩ := le_bd s 0 i
    rw [wrap_u64, Int.emod_eq_of_lt b0 (by omega)]
    rw [or_shl_byte (le s 0 i) (bt s i) i (by omega) l0 l1 b0 b1]
    have := ih k (i + 1) (by omega) (by omega)
    rw [← this]
    simp [le]
theorem getBits_eq (s : ByteArray) (hs : s.size ≤ 8) (k : Nat) (hk : 8 < k) : impl_getBits.f k s = some (le s 0 s.size) := by
  unfold impl_getBits.f
  exact getBits_l0 s hs s.size k 0 (by omega) (by omega)

/-! ### implGetUint -/
/-- What GetUint answers. -/
def uintAt (s : ByteArray) (a n : Int) : Int × Bool :=
  if 1 ≤ n ∧ n ≤ 8 ∧ 0 ≤ a ∧ a + n ≤ s.size ∧ le s a n.toNat < 9223372036854775808 then (le s a n.toNat, true) else (0, false)
theorem implGetUint_eq (s : ByteArray) (a n : Int) (hs : s.size ≤ 140737488351232) (hn : -9223372036854775808 ≤ n ∧ n ≤ 9223372036854775807) (k : Nat) (hk : 8 < k) :
    impl_GetUint.f k s a n = some (uintAt s a n) := by
  unfold impl_GetUint.f uintAt
  by_cases h : 0 ≤ n ∧ 0 ≤ a ∧ a + n ≤ s.size
  · rw [cut_yes s a n hs (by omega) (by omega) (by omega)]
    simp only [Option.bind_some, sizeOk_eq, if_true]
    by_cases h8 : 1 ≤ n ∧ n ≤ 8
    · have he : (s.extract a.toNat (a + n).toNat).size = n.toNat := by rw [size_extract] <;> omega
      have hl : le (s.extract a.toNat (a + n).toNat) 0 n.toNat = le s a n.toNat := by
        have := le_extract s a.toNat (a + n).toNat (by omega) n.toNat (by omega)
        rw [this, Int.toNat_of_nonneg (by omega)]
      rw [if_pos (by simpa using h8), getBits_eq _ (by omega) k hk, he, hl]
      simp only [Option.bind_some]
      obtain ⟨l0, l1⟩ := le_bd s a n.toNat
      by_cases hb : le s a n.toNat < 9223372036854775808
      · rw [if_neg (by omega), if_pos (by omega), w64 (by omega) (by omega)]
      · rw [if_pos (by omega), if_neg (by omega)]
    · rw [if_neg (by simpa using h8), if_neg (by omega)]
  · rw [cut_no s a n hs hn (by omega)]
    simp only [Option.bind_some]
    rw [if_neg (by simp), if_neg (by omega)]

/-! ### l00In -/
theorem l00In_eq (a b c : Int) : spec_l00In.f a b c = some (decide (b ≤ a ∧ a ≤ c)) := by
  unfold spec_l00In.f
  by_cases h : b ≤ a
  · rw [if_pos h]; simp [h]
  · rw [if_neg h]; simp [h]

/-! ### specGetUint -/
theorem specWithin_eq (s : ByteArray) (a n : Int) (hs : s.size ≤ 140737488351232) :
    spec_l01Within.f s a n = some (decide (1 ≤ n ∧ n ≤ 8 ∧ 0 ≤ a ∧ a + n ≤ s.size)) := by
  unfold spec_l01Within.f
  simp only [l00In_eq, Option.bind_some, decide_eq_true_eq]
  by_cases h1 : 1 ≤ n ∧ n ≤ 8
  · rw [if_pos h1]
    by_cases h2 : 0 ≤ a ∧ a ≤ s.size
    · rw [if_pos h2, w64 (by omega) (by omega)]
      congr 1
      simp only [decide_eq_decide]
      omega
    · rw [if_neg h2]
      congr 1
      symm
      simp only [decide_eq_false_iff_not]
      omega
  · rw [if_neg h1]
    congr 1
    symm
    simp only [decide_eq_false_iff_not]
    omega
theorem specGetUint_l0 (s : ByteArray) (a : Int) (hs : s.size ≤ 140737488351232) (ha : 0 ≤ a) : ∀ (j k : Nat) (acc : Int), a + j ≤ s.size → j < k → 0 ≤ acc → acc * 256 ^ j + le s a j < 9223372036854775808 →
    spec_l01GetUint.l0 k s a acc ((j : Int) - 1) = some (acc * 256 ^ j + le s a j, true)
  | 0, k, acc, hj, hk, h0, h1 => by
    obtain ⟨k, rfl⟩ : ∃ m, k = m + 1 := ⟨k - 1, by omega⟩
    simp only [spec_l01GetUint.l0]
    rw [if_neg (by omega)]
    simp [le]
  | j + 1, k, acc, hj, hk, h0, h1 => by
    obtain ⟨k, rfl⟩ : ∃ m, k = m + 1 := ⟨k - 1, by omega⟩
    simp only [spec_l01GetUint.l0]
    obtain ⟨b0, b1⟩ := bt_range s (a + j)
    have hp : (0 : Int) < 256 ^ j := Int.pow_pos (by decide)
    obtain ⟨l0, l1⟩ := le_bd s a j
    have e : acc * 256 ^ (j + 1) + le s a (j + 1) = (acc * 256 + bt s (a + j)) * 256 ^ j + le s a j := by
      simp only [le, Int.pow_succ]
      rw [Int.add_mul, Int.mul_assoc acc 256, Int.mul_comm 256]
      omega
    have hle : acc * 256 + bt s (a + j) ≤ (acc * 256 + bt s (a + j)) * 256 ^ j := le_mul_self (by omega) (by omega)
    have e1 : ((j + 1 : Nat) : Int) - 1 = (j : Int) := by omega
    rw [e1, if_pos (by omega), w64 (x := a + (j : Int)) (by omega) (by omega), if_pos (by omega), if_pos (by omega)]
    rw [w64 (x := bt s (a + j)) (by omega) (by omega), w64 (x := acc * 256) (by omega) (by omega), w64 (x := acc * 256 + bt s (a + j)) (by omega) (by omega), w64 (x := (j : Int) - 1) (by omega) (by omega)]
    rw [specGetUint_l0 s a hs ha j k (acc * 256 + bt s (a + j)) (by omega) (by omega) (by omega) (by omega), e]

theorem top8 (s : ByteArray) (a : Int) : (127 < bt s (a + 7)) ↔ 9223372036854775808 ≤ le s a 8 := by
  obtain ⟨l0, l1⟩ := le_bd s a 7
  have e : le s a 8 = le s a 7 + bt s (a + 7) * 256 ^ 7 := rfl
  rw [e]
  omega
theorem specGetUint_eq (s : ByteArray) (a n : Int) (hs : s.size ≤ 140737488351232) (k : Nat) (hk : 10 < k) :
    spec_GetUint.f k s a n = some (uintAt s a n) := by
  unfold spec_GetUint.f spec_l01GetUint.f uintAt
  rw [specWithin_eq s a n hs]
  obtain ⟨k, rfl⟩ : ∃ m, k = m + 1 := ⟨k - 1, by omega⟩
  simp only [Option.bind_some, decide_eq_true_eq, spec_l01GetUint.j0]
  by_cases h : 1 ≤ n ∧ n ≤ 8 ∧ 0 ≤ a ∧ a + n ≤ s.size
  · rw [if_pos h]
    obtain ⟨j, rfl⟩ : ∃ j : Nat, n = j := ⟨n.toNat, by omega⟩
    have hl := specGetUint_l0 s a hs (by omega) j k 0 (by omega) (by omega) (by omega)
    simp only [Int.zero_mul, Int.zero_add] at hl
    rw [w64 (x := (j : Int) - 1) (by omega) (by omega), Int.toNat_natCast]
    by_cases h8 : (j : Int) = 8
    · obtain rfl : j = 8 := by omega
      have ht := top8 s a
      rw [if_pos h8, w64 (x := a + 7) (by omega) (by omega), if_pos (by omega), if_pos (by omega)]
      by_cases hb : 127 < bt s (a + 7)
      · rw [if_pos (by simpa using hb), if_neg (by omega)]
        rfl
      · rw [if_neg (by simpa using hb), hl (by omega), if_pos (by omega)]
        rfl
    · obtain ⟨l0, l1⟩ := le_bd s a j
      have hp : (256 : Int) ^ j ≤ 256 ^ 7 := pow_mono (by decide) (by omega)
      rw [if_neg h8, if_neg (by simp), hl (by omega), if_pos (by omega)]
      rfl
  · rw [if_neg h, if_pos trivial, if_neg (by omega)]
    rfl
theorem FnExactGetUint : laws_FnExactGetUint.Pure := by
  intro s a n hs ha hn
  refine ⟨20, ?_⟩
  unfold laws_FnExactGetUint.f
  split
  · rfl
  · rw [specGetUint_eq s a n hs 20 (by omega), implGetUint_eq s a n hs (bd64 hn) 20 (by omega)]
    simp

end Go.Proofs.Ytpachmimhampfaa.Pure
