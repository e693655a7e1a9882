/- Numbers are restored from their bytes; a number that is read has these bytes. No condition. -/
import Derived.Test.YtlcbbiiohhplfaaKit
import Derived.Test.YtlcbbiiohhplfaaMFnIntegersx4
namespace Go.Proofs.Ytlcbbiiohhplfaa.Pure
open Go.RowKit Go.Proofs.Ytlcbbiiohhplfaa.PFnIntegers Go.Proofs.YtlcbbiiohhplfaaW.PrintWords Go.Proofs.YtlcbbiiohhplfaaW.PrintLast Go.Proofs.Ytlcbbiiohhplfaa.Kit

/-! ### pick -/
/-- A reader of draws: a list of bytes, a place that is not behind 2^40, a seed. -/
theorem next_some (l : List Int) (hl : ∀ x ∈ l, 0 ≤ x ∧ x ≤ 255) (p q : Int) (h0 : 0 ≤ p) (h1 : p ≤ 4611686018427387904) :
    ∃ r q', spec_l00Src_next.f l p q = some (r, p + 1, q') ∧ 0 ≤ r ∧ r ≤ 255 := by
  unfold spec_l00Src_next.f
  rw [w64 (x := p + 1) (by omega) (by omega)]
  have hand : ∀ x : Int, 0 ≤ wrap64 (Go.bits .and .u64 (IntKind.u64.wrap x / 1099511627776) 255) ∧ wrap64 (Go.bits .and .u64 (IntKind.u64.wrap x / 1099511627776) 255) ≤ 255 := fun x => by
    have := and255 (IntKind.u64.wrap x / 1099511627776)
    rw [w64] <;> omega
  have hrd : 0 ≤ rd l p ∧ rd l p ≤ 255 := rd_all (P := fun x => 0 ≤ x ∧ x ≤ 255) hl (by omega) p
  by_cases h2 : p < l.length
  · rw [if_pos h2, if_pos h0]
    by_cases h3 : p + 1 ≤ l.length
    · rw [if_pos h3]
      exact ⟨_, _, rfl, by rw [w64] <;> omega, by rw [w64] <;> omega⟩
    · omega
  · rw [if_neg h2]
    by_cases h3 : p + 1 ≤ l.length
    · rw [if_pos h3]
      exact ⟨_, _, rfl, by omega, by omega⟩
    · rw [if_neg h3]
      exact ⟨_, _, rfl, (hand _).1, (hand _).2⟩
theorem tmod_bd {x n : Int} (hx : 0 ≤ x) (hn : 0 < n) : 0 ≤ Int.tmod x n ∧ Int.tmod x n < n :=
  ⟨Int.tmod_nonneg _ hx, Int.tmod_lt_of_pos _ hn⟩
theorem pick_some (l : List Int) (hl : ∀ x ∈ l, 0 ≤ x ∧ x ≤ 255) (p q n : Int) (h0 : 0 ≤ p) (h1 : p ≤ 4611686018427387903) :
    ∃ r p' q', spec_l00Src_pick.f l p q n = some (r, p', q') ∧ 0 ≤ r ∧ (r = 0 ∨ r < n) ∧ p ≤ p' ∧ p' ≤ p + 2 := by
  unfold spec_l00Src_pick.f
  by_cases hn : n ≤ 1
  · rw [if_pos hn]
    exact ⟨_, _, _, rfl, by omega, by omega, by omega, by omega⟩
  · rw [if_neg hn]
    obtain ⟨a, q1, ha, a0, a1⟩ := next_some l hl p q h0 (by omega)
    rw [ha]
    simp only [obind]
    by_cases h2 : n > 200
    · rw [if_pos h2]
      obtain ⟨b, q2, hb, b0, b1⟩ := next_some l hl (p + 1) q1 (by omega) (by omega)
      rw [hb]
      simp only [obind]
      rw [if_neg (by omega), w64 (x := a * 256) (by omega) (by omega), w64 (x := a * 256 + b) (by omega) (by omega)]
      have := tmod_bd (x := a * 256 + b) (n := n) (by omega) (by omega)
      exact ⟨_, _, _, rfl, by omega, by omega, by omega, by omega⟩
    · rw [if_neg h2, if_neg (by omega)]
      have := tmod_bd (x := a) (n := n) (by omega) (by omega)
      exact ⟨_, _, _, rfl, by omega, by omega, by omega, by omega⟩

/-! ### among -/
theorem among_some (l : List Int) (hl : ∀ x ∈ l, 0 ≤ x ∧ x ≤ 255) (p q : Int) (xs : List Int) (hx : 0 < xs.length) (h0 : 0 ≤ p) (h1 : p ≤ 4611686018427387903) :
    ∃ r p' q', spec_l00Src_among.f l p q xs = some (r, p', q') ∧ r ∈ xs ∧ p ≤ p' ∧ p' ≤ p + 2 := by
  unfold spec_l00Src_among.f
  obtain ⟨a, p1, q1, ha, a0, a1, a2, a3⟩ := pick_some l hl p q xs.length h0 h1
  rw [ha]
  simp only [obind]
  rw [if_pos a0, if_pos (by omega)]
  exact ⟨_, _, _, rfl, rd_mem (by omega) (by omega), by omega, by omega⟩

/-! ### within -/
theorem within_eq (a b c : Int) : impl_within.f a b c = some (decide (b ≤ a ∧ a ≤ c)) := by
  unfold impl_within.f
  by_cases h : b ≤ a
  · rw [if_pos h]; simp [h]
  · rw [if_neg h]; simp [h]

/-! ### cut -/
theorem cut_yes (s : ByteArray) (a n : Int) (hs : s.size ≤ 140737488351232) (h0 : 0 ≤ n) (h1 : 0 ≤ a) (h2 : a + n ≤ s.size) :
    impl_cut.f s a n = some (s.extract a.toNat (a + n).toNat, true) := by
  unfold impl_cut.f
  rw [if_neg (by omega), w64 (by omega) (by omega), within_eq, w64 (by omega) (by omega)]
  simp only [obind]
  rw [if_pos (by simp; omega), if_pos h1, if_pos (by omega), if_pos h2]
theorem cut_no (s : ByteArray) (a n : Int) (hs : s.size ≤ 140737488351232) (hn : -9223372036854775808 ≤ n ∧ n ≤ 9223372036854775807)
    (h : n < 0 ∨ a < 0 ∨ s.size < a + n) : impl_cut.f s a n = some ((⟨#[]⟩ : ByteArray), false) := by
  unfold impl_cut.f
  by_cases hn0 : n < 0
  · rw [if_pos hn0]
  · rw [if_neg hn0, w64 (by omega) (by omega), within_eq]
    simp only [obind]
    rw [if_neg (by simp; omega)]

/-! ### sizeOk -/
theorem sizeOk_eq (n : Int) : impl_sizeOk.f n = some (decide (1 ≤ n ∧ n ≤ 8)) := by
  unfold impl_sizeOk.f
  simp only [within_eq, obind]

/-! ### getBits -/
theorem getBits_l0 (s : ByteArray) (hs : s.size ≤ 8) (d : Nat) : ∀ (k i : Nat), i + d = s.size → d < k →
    impl_getBits.l0 k s (le s 0 i) s.size i = some (le s 0 s.size) := by
  induction d with
  | zero =>
    intro k i hi hk
    obtain ⟨k, rfl⟩ : ∃ m, k = m + 1 := ⟨k - 1, by omega⟩
    simp only [impl_getBits.l0]
    rw [if_neg (by omega), show i = s.size by omega]
  | succ d ih =>
    intro k i hi hk
    obtain ⟨k, rfl⟩ : ∃ m, k = m + 1 := ⟨k - 1, by omega⟩
    simp only [impl_getBits.l0]
    rw [if_pos (by omega), if_pos (by omega), if_pos (by omega), w64 (x := 8 * (i : Int)) (by omega) (by omega), if_pos (by omega), w64 (x := (i : Int) + 1) (by omega) (by omega)]
    obtain ⟨b0, b1⟩ := bt_range s i
    obtain ⟨l0, l1⟩ := le_bd s 0 i
    rw [wrap_u64, Int.emod_eq_of_lt b0 (by omega)]
    rw [or_shl_byte (le s 0 i) (bt s i) i (by omega) l0 l1 b0 b1]
    have := ih k (i + 1) (by omega) (by omega)
    rw [← this]
    simp [le]
theorem getBits_eq (s : ByteArray) (hs : s.size ≤ 8) (k : Nat) (hk : 8 < k) : impl_getBits.f k s = some (le s 0 s.size) := by
  unfold impl_getBits.f
  exact getBits_l0 s hs s.size k 0 (by omega) (by omega)

/-! ### implGetUint -/
/-- What GetUint answers. -/
def uintAt (s : ByteArray) (a n : Int) : Int × Bool :=
  if 1 ≤ n ∧ n ≤ 8 ∧ 0 ≤ a ∧ a + n ≤ s.size ∧ le s a n.toNat < 9223372036854775808 then (le s a n.toNat, true) else (0, false)
theorem implGetUint_eq (s : ByteArray) (a n : Int) (hs : s.size ≤ 140737488351232) (hn : -9223372036854775808 ≤ n ∧ n ≤ 9223372036854775807) (k : Nat) (hk : 8 < k) :
    impl_GetUint.f k s a n = some (uintAt s a n) := by
  unfold impl_GetUint.f uintAt
  by_cases h : 0 ≤ n ∧ 0 ≤ a ∧ a + n ≤ s.size
  · rw [cut_yes s a n hs (by omega) (by omega) (by omega)]
    simp only [obind, sizeOk_eq, if_true]
    by_cases h8 : 1 ≤ n ∧ n ≤ 8
    · have he : (s.extract a.toNat (a + n).toNat).size = n.toNat := by rw [size_extract] <;> omega
      have hl : le (s.extract a.toNat (a + n).toNat) 0 n.toNat = le s a n.toNat := by
        have := le_extract s a.toNat (a + n).toNat (by omega) n.toNat (by omega)
        rw [this, Int.toNat_of_nonneg (by omega)]
      rw [if_pos (by simpa using h8), getBits_eq _ (by omega) k hk, he, hl]
      simp only [obind]
      obtain ⟨l0, l1⟩ := le_bd s a n.toNat
      by_cases hb : le s a n.toNat < 9223372036854775808
      · rw [if_neg (by omega), if_pos (by omega), w64 (by omega) (by omega)]
      · rw [if_pos (by omega), if_neg (by omega)]
    · rw [if_neg (by simpa using h8), if_neg (by omega)]
  · rw [cut_no s a n hs hn (by omega)]
    simp only [obind]
    rw [if_neg (by simp), if_neg (by omega)]

/-! ### signed -/
theorem signed_arith (t p P : Int) (hP : 0 < P) (hp : p * P = 18446744073709551616) (t0 : 0 ≤ t) (t1 : t < p) :
    wrap64 ((t * P) % 18446744073709551616) / P = if p ≤ 2 * t then t - p else t := by
  have h0 : 0 ≤ t * P := Int.mul_nonneg t0 (by omega)
  have h1 : t * P < p * P := Int.mul_lt_mul_of_pos_right t1 hP
  rw [Int.emod_eq_of_lt h0 (by rw [hp] at h1; exact h1)]
  by_cases hc : p ≤ 2 * t
  · have h2 : p * P ≤ 2 * t * P := Int.mul_le_mul_of_nonneg_right hc (by omega)
    rw [Int.mul_assoc] at h2
    have e : wrap64 (t * P) = (t - p) * P := by
      rw [Int.sub_mul, hp]
      rw [hp] at h1 h2
      clear hp
      generalize t * P = x at *
      unfold wrap64
      omega
    rw [if_pos hc, e, Int.mul_ediv_cancel _ (by omega)]
  · have h2 : 2 * t * P < p * P := Int.mul_lt_mul_of_pos_right (by omega) hP
    rw [Int.mul_assoc] at h2
    rw [hp] at h1 h2
    clear hp
    rw [if_neg hc, w64 (by omega) (by omega), Int.mul_ediv_cancel _ (by omega)]
theorem signed_pow (n : Nat) (h : n ≤ 8) : (256 : Int) ^ n * 2 ^ (64 - 8 * n) = 18446744073709551616 := by
  rw [pow256, ← Int.pow_add, show 8 * n + (64 - 8 * n) = 64 by omega]
  rfl
theorem signed_shifts (t : Int) (n : Nat) (hm : min (64 - 8 * (n : Int)).toNat 64 = 64 - 8 * n) :
    shr .i64 (wrap64 (shl .u64 t (64 - 8 * (n : Int)))) (64 - 8 * (n : Int)) = wrap64 ((t * 2 ^ (64 - 8 * n)) % 18446744073709551616) / 2 ^ (64 - 8 * n) := by
  unfold shl shr
  rw [wrap_u64]
  simp only [IntKind.bits, hm]
theorem signed_eq (s : ByteArray) (h1 : 1 ≤ s.size) (h8 : s.size ≤ 8) (k : Nat) (hk : 8 < k) :
    impl_signed.f k s = some (if 256 ^ s.size ≤ 2 * le s 0 s.size then le s 0 s.size - 256 ^ s.size else le s 0 s.size) := by
  unfold impl_signed.f
  rw [getBits_eq s h8 k hk]
  simp only [obind]
  obtain ⟨l0, l1⟩ := le_bd s 0 s.size
  generalize le s 0 s.size = t at *
  generalize s.size = n at *
  rw [w64 (x := 8 * (n : Int)) (by omega) (by omega), w64 (x := 64 - 8 * (n : Int)) (by omega) (by omega), if_pos (by omega)]
  rw [signed_shifts t n (by clear l0 l1; omega), signed_arith t (256 ^ n) (2 ^ (64 - 8 * n)) (Int.pow_pos (by decide)) (signed_pow n h8) l0 l1]

/-! ### implGetInt -/
/-- What GetInt answers. -/
def sintAt (s : ByteArray) (a n : Int) : Int × Bool :=
  if 1 ≤ n ∧ n ≤ 8 ∧ 0 ≤ a ∧ a + n ≤ s.size then (if 256 ^ n.toNat ≤ 2 * le s a n.toNat then le s a n.toNat - 256 ^ n.toNat else le s a n.toNat, true) else (0, false)
theorem implGetInt_eq (s : ByteArray) (a n : Int) (hs : s.size ≤ 140737488351232) (hn : -9223372036854775808 ≤ n ∧ n ≤ 9223372036854775807) (k : Nat) (hk : 8 < k) :
    impl_GetInt.f k s a n = some (sintAt s a n) := by
  unfold impl_GetInt.f sintAt
  by_cases h : 0 ≤ n ∧ 0 ≤ a ∧ a + n ≤ s.size
  · rw [cut_yes s a n hs (by omega) (by omega) (by omega)]
    simp only [obind, sizeOk_eq, if_true]
    by_cases h8 : 1 ≤ n ∧ n ≤ 8
    · have he : (s.extract a.toNat (a + n).toNat).size = n.toNat := by rw [size_extract] <;> omega
      have hl : le (s.extract a.toNat (a + n).toNat) 0 n.toNat = le s a n.toNat := by
        have := le_extract s a.toNat (a + n).toNat (by omega) n.toNat (by omega)
        rw [this, Int.toNat_of_nonneg (by omega)]
      rw [if_pos (by simpa using h8), signed_eq _ (by omega) (by omega) k hk, he, hl, if_pos (show 1 ≤ n ∧ n ≤ 8 ∧ 0 ≤ a ∧ a + n ≤ s.size by omega)]
      simp only [obind]
    · rw [if_neg (by simpa using h8), if_neg (by omega)]
  · rw [cut_no s a n hs hn (by omega)]
    simp only [obind]
    rw [if_neg (by simp), if_neg (by omega)]

/-! ### l00In -/
theorem l00In_eq (a b c : Int) : spec_l00In.f a b c = some (decide (b ≤ a ∧ a ≤ c)) := by
  unfold spec_l00In.f
  by_cases h : b ≤ a
  · rw [if_pos h]; simp [h]
  · rw [if_neg h]; simp [h]

/-! ### putBytes -/
theorem shr_bytes (n : Int) (j : Nat) (h : j < 8) : shr .i64 n (8 * (j : Int)) = n / 256 ^ j := by
  unfold shr
  rw [show min (8 * (j : Int)).toNat IntKind.i64.bits = 8 * j by simp [IntKind.bits]; omega, pow256]
theorem putBytes_l0 (n : Int) (D : Nat) (hD : D ≤ 8) (d : Nat) : ∀ (k i : Nat), i + d = D → d < k → impl_putBytes.l0 k n (bytesN n i ++ List.replicate d 0) D i = some (strOfNums (bytesN n D)) := by
  induction d with
  | zero =>
    intro k i hi hk
    obtain ⟨k, rfl⟩ : ∃ m, k = m + 1 := ⟨k - 1, by omega⟩
    simp only [impl_putBytes.l0]
    rw [if_neg (by omega)]
    simp [show i = D by omega]
  | succ d ih =>
    intro k i hi hk
    obtain ⟨k, rfl⟩ : ∃ m, k = m + 1 := ⟨k - 1, by omega⟩
    simp only [impl_putBytes.l0]
    rw [if_pos (by omega), w64 (x := 8 * (i : Int)) (by omega) (by omega), if_pos (by omega), if_pos (by omega), if_pos (by simp [bytesN_length]; omega), w64 (x := (i : Int) + 1) (by omega) (by omega), shr_bytes n i (by omega)]
    have := ih k (i + 1) (by omega) (by omega)
    rw [bytesN_succ] at this
    rw [← this]
    congr 1
    rw [List.replicate_succ]
    have hl := bytesN_length n i
    generalize bytesN n i = l at *
    subst hl
    simp
theorem putBytes_eq (n a : Int) (h0 : 0 ≤ a) (h1 : a ≤ 8) (k : Nat) (hk : 8 < k) : impl_putBytes.f k n a = some (strOfNums (bytesN n a.toNat)) := by
  unfold impl_putBytes.f
  rw [if_pos h0, if_pos (by omega)]
  simp only [obind, List.length_replicate]
  exact putBytes_l0 n a.toNat (by omega) a.toNat k 0 (by omega) (by omega)

/-! ### putUint -/
def putU (n a : Int) : ByteArray := if 1 ≤ a ∧ a ≤ 8 ∧ 0 ≤ n ∧ (a < 8 → n / 256 ^ a.toNat = 0) then strOfNums (bytesN n a.toNat) else ⟨#[]⟩
theorem shr_all (n a : Int) (h0 : 0 ≤ a) (h8 : a < 8) : shr .i64 n (8 * a) = n / 256 ^ a.toNat := by
  obtain ⟨j, rfl⟩ := Int.eq_ofNat_of_zero_le h0
  exact shr_bytes n j (by omega)
theorem implPutUint_eq (n a : Int) (ha : -9223372036854775808 ≤ a ∧ a ≤ 9223372036854775807) (k : Nat) (hk : 8 < k) : impl_PutUint.f k n a = some (putU n a) := by
  unfold impl_PutUint.f putU
  simp only [sizeOk_eq, obind, decide_eq_true_eq]
  by_cases h : 1 ≤ a ∧ a ≤ 8
  · rw [if_pos h]
    by_cases hn : n < 0
    · rw [if_pos hn, if_neg (by omega)]
    · rw [if_neg hn]
      by_cases h8 : a < 8
      · rw [if_pos h8, w64 (x := 8 * a) (by omega) (by omega), if_pos (by omega), shr_all n a (by omega) h8]
        by_cases hz : n / 256 ^ a.toNat = 0
        · rw [if_pos hz, putBytes_eq n a (by omega) (by omega) k hk, if_pos ⟨h.1, h.2, by omega, fun _ => hz⟩]
          simp only [obind]
        · rw [if_neg hz, if_neg (fun hh => hz (hh.2.2.2 h8))]
      · rw [if_neg h8, putBytes_eq n a (by omega) (by omega) k hk, if_pos ⟨h.1, h.2, by omega, fun hh => absurd hh h8⟩]
        simp only [obind]
  · rw [if_neg h, if_neg (fun hh => h ⟨hh.1, hh.2.1⟩)]

/-! ### specBytes -/
theorem and255_eq (x : Int) : Go.bits .and .i64 x 255 % 256 = x % 256 := by
  have := bits_and_mask .i64 x 8 (by decide)
  rw [show (2 : Int) ^ 8 - 1 = 255 by rfl, wrap_i64', w64 (by omega) (by omega)] at this
  rw [this]
  omega
theorem specBytes_l0 (n : Int) (D : Nat) (hD : D ≤ 8) (d : Nat) : ∀ (k i : Nat), i + d = D → d < k → spec_l01Bytes.l0 k n D (bytesN n i) i = some (strOfNums (bytesN n D)) := by
  induction d with
  | zero =>
    intro k i hi hk
    obtain ⟨k, rfl⟩ : ∃ m, k = m + 1 := ⟨k - 1, by omega⟩
    simp only [spec_l01Bytes.l0]
    rw [if_neg (by omega), show i = D by omega]
  | succ d ih =>
    intro k i hi hk
    obtain ⟨k, rfl⟩ : ∃ m, k = m + 1 := ⟨k - 1, by omega⟩
    simp only [spec_l01Bytes.l0]
    have hu : IntKind.u64.wrap (i : Int) = i := by rw [wrap_u64]; omega
    have hu8 : IntKind.u64.wrap (8 * (i : Int)) = 8 * i := by rw [wrap_u64]; omega
    rw [if_pos (by omega), hu, hu8, if_pos (by omega), if_pos (by simp [bytesN_length]; omega), w64 (x := (i : Int) + 1) (by omega) (by omega), shr_bytes n i (by omega), and255_eq, ← bytesN_succ]
    exact ih k (i + 1) (by omega) (by omega)
theorem specBytes_eq (n a : Int) (h0 : 0 ≤ a) (h1 : a ≤ 8) (k : Nat) (hk : 8 < k) : spec_l01Bytes.f k n a = some (strOfNums (bytesN n a.toNat)) := by
  unfold spec_l01Bytes.f
  obtain ⟨D, rfl⟩ := Int.eq_ofNat_of_zero_le h0
  exact specBytes_l0 n D (by omega) D k 0 (by omega) (by omega)

/-! ### specPutUint -/
theorem specPutUint_eq (n a : Int) (ha : -9223372036854775808 ≤ a ∧ a ≤ 9223372036854775807) (k : Nat) (hk : 8 < k) : spec_l01PutUint.f k n a = some (putU n a) := by
  unfold spec_l01PutUint.f putU
  simp only [l00In_eq, obind, decide_eq_true_eq]
  by_cases h : 1 ≤ a ∧ a ≤ 8
  · have hu : IntKind.u64.wrap a = a := by rw [wrap_u64]; omega
    have hu8 : IntKind.u64.wrap (8 * a) = 8 * a := by rw [wrap_u64]; omega
    rw [if_pos h]
    by_cases hn : n < 0
    · rw [if_pos hn, if_neg (by omega)]
    · rw [if_neg hn]
      by_cases h8 : a < 8
      · rw [if_pos h8, hu, hu8, if_pos (by omega), shr_all n a (by omega) h8]
        by_cases hz : n / 256 ^ a.toNat = 0
        · rw [if_pos hz, specBytes_eq n a (by omega) (by omega) k hk, if_pos ⟨h.1, h.2, by omega, fun _ => hz⟩]
          simp only [obind]
        · rw [if_neg hz, if_neg (fun hh => hz (hh.2.2.2 h8))]
      · rw [if_neg h8, specBytes_eq n a (by omega) (by omega) k hk, if_pos ⟨h.1, h.2, by omega, fun hh => absurd hh h8⟩]
        simp only [obind]
  · rw [if_neg h, if_neg (fun hh => h ⟨hh.1, hh.2.1⟩)]

/-! ### putInt -/
def halfOf (a : Int) : Int := 128 * 256 ^ (a.toNat - 1)
def putI (n a : Int) : ByteArray := if 1 ≤ a ∧ a ≤ 8 ∧ (a < 8 → -halfOf a ≤ n ∧ n ≤ halfOf a - 1) then strOfNums (bytesN n a.toNat) else ⟨#[]⟩
theorem half_shl (a : Int) (h1 : 1 ≤ a) (h7 : a < 8) : shl .i64 (-1) (wrap64 (wrap64 (8 * a) - 1)) = -halfOf a ∧ wrap64 (shl .i64 1 (wrap64 (wrap64 (8 * a) - 1)) - 1) = halfOf a - 1 ∧ 0 ≤ wrap64 (wrap64 (8 * a) - 1) := by
  obtain rfl | rfl | rfl | rfl | rfl | rfl | rfl : a = 1 ∨ a = 2 ∨ a = 3 ∨ a = 4 ∨ a = 5 ∨ a = 6 ∨ a = 7 := by omega
  all_goals decide +kernel
theorem implPutInt_eq (n a : Int) (k : Nat) (hk : 8 < k) : impl_PutInt.f k n a = some (putI n a) := by
  unfold impl_PutInt.f putI
  simp only [sizeOk_eq, obind, decide_eq_true_eq]
  by_cases h : 1 ≤ a ∧ a ≤ 8
  · rw [if_pos h]
    by_cases h8 : a < 8
    · obtain ⟨e1, e2, e3⟩ := half_shl a h.1 h8
      rw [if_pos h8, if_pos e3, e1, e2, within_eq]
      simp only [obind, decide_eq_true_eq]
      by_cases hz : -halfOf a ≤ n ∧ n ≤ halfOf a - 1
      · rw [if_pos hz, putBytes_eq n a (by omega) (by omega) k hk, if_pos ⟨h.1, h.2, fun _ => hz⟩]
        simp only [obind]
      · rw [if_neg hz, if_neg (fun hh => hz (hh.2.2 h8))]
    · rw [if_neg h8, putBytes_eq n a (by omega) (by omega) k hk, if_pos ⟨h.1, h.2, fun hh => absurd hh h8⟩]
      simp only [obind]
  · rw [if_neg h, if_neg (fun hh => h ⟨hh.1, hh.2.1⟩)]

/-! ### specPutInt -/
theorem half_spec (a : Int) (h1 : 1 ≤ a) (h7 : a < 8) : wrap64 (-(shl .i64 1 (IntKind.u64.wrap (IntKind.u64.wrap (8 * IntKind.u64.wrap a) - 1)))) = -halfOf a ∧ wrap64 (shl .i64 1 (IntKind.u64.wrap (IntKind.u64.wrap (8 * IntKind.u64.wrap a) - 1)) - 1) = halfOf a - 1 ∧ 0 ≤ IntKind.u64.wrap (IntKind.u64.wrap (8 * IntKind.u64.wrap a) - 1) := by
  obtain rfl | rfl | rfl | rfl | rfl | rfl | rfl : a = 1 ∨ a = 2 ∨ a = 3 ∨ a = 4 ∨ a = 5 ∨ a = 6 ∨ a = 7 := by omega
  all_goals decide +kernel
theorem specPutInt_eq (n a : Int) (k : Nat) (hk : 8 < k) : spec_PutInt.f k n a = some (putI n a) := by
  unfold spec_PutInt.f spec_l01Fits.f putI
  simp only [l00In_eq, obind, decide_eq_true_eq]
  by_cases h : 1 ≤ a ∧ a ≤ 8
  · rw [if_pos h]
    by_cases h8 : a = 8
    · rw [if_pos h8]
      simp only [obind, if_true]
      rw [specBytes_eq n a (by omega) (by omega) k hk, if_pos ⟨h.1, h.2, fun hh => by omega⟩]
      simp only [obind]
    · obtain ⟨e1, e2, e3⟩ := half_spec a h.1 (by omega)
      rw [if_neg h8, if_pos e3, e1, e2]
      simp only [obind, decide_eq_true_eq]
      by_cases hz : -halfOf a ≤ n ∧ n ≤ halfOf a - 1
      · rw [if_pos hz, specBytes_eq n a (by omega) (by omega) k hk, if_pos ⟨h.1, h.2, fun _ => hz⟩]
        simp only [obind]
      · rw [if_neg hz, if_neg (fun hh => hz (hh.2.2 (by omega)))]
  · rw [if_neg h, if_neg (fun hh => h ⟨hh.1, hh.2.1⟩)]

/-! ### drawWord -/
theorem word_l0 (l : List Int) (hl : ∀ x ∈ l, 0 ≤ x ∧ x ≤ 255) (d : Nat) : ∀ (k : Nat) (acc : List Int) (p q : Int), d < k → acc.length + d ≤ 1099511627776 → 0 ≤ p → p + d ≤ 4611686018427387000 →
    ∃ s p' q', spec_l00Src_word.l0 k acc d l p q = some (s, p', q') ∧ s.size = acc.length + d ∧ p ≤ p' ∧ p' ≤ p + d := by
  induction d with
  | zero =>
    intro k acc p q hk hla h0 h1
    obtain ⟨k, rfl⟩ : ∃ m, k = m + 1 := ⟨k - 1, by omega⟩
    simp only [spec_l00Src_word.l0]
    rw [if_neg (by omega)]
    exact ⟨_, _, _, rfl, by rw [size_ofNums]; omega, by omega, by omega⟩
  | succ d ih =>
    intro k acc p q hk hla h0 h1
    obtain ⟨k, rfl⟩ : ∃ m, k = m + 1 := ⟨k - 1, by omega⟩
    simp only [spec_l00Src_word.l0]
    obtain ⟨r, q1, e, r0, r1⟩ := next_some l hl p q h0 (by omega)
    rw [if_pos (by omega), e]
    simp only [obind]
    rw [if_pos (by omega), w64 (x := ((d + 1 : Nat) : Int) - 1) (by omega) (by omega), show ((d + 1 : Nat) : Int) - 1 = d by omega]
    obtain ⟨s, p', q', e2, hs, g0, g1⟩ := ih k (acc ++ [r % 256]) (p + 1) q1 (by omega) (by simp; omega) (by omega) (by omega)
    exact ⟨s, p', q', e2, by simp at hs; omega, by omega, by omega⟩
theorem word_some (l : List Int) (hl : ∀ x ∈ l, 0 ≤ x ∧ x ≤ 255) (p q n : Int) (h0 : 0 ≤ p) (h1 : p ≤ 4611686018427380000) (hn : n ≤ 4096) (k : Nat) (hk : 4096 < k) :
    ∃ s p' q', spec_l00Src_word.f k l p q n = some (s, p', q') ∧ (s.size : Int) ≤ 4096 ∧ (s.size = 0 ∨ (s.size : Int) < n) ∧ p ≤ p' ∧ p' ≤ p + 4098 := by
  unfold spec_l00Src_word.f
  obtain ⟨a, p1, q1, e, a0, a1, a2, a3⟩ := pick_some l hl p q n h0 (by omega)
  rw [e]
  simp only [obind]
  obtain ⟨d, rfl⟩ := Int.eq_ofNat_of_zero_le a0
  obtain ⟨s, p', q', e2, hs, g0, g1⟩ := word_l0 l hl d k [] p1 q1 (by omega) (by simp; omega) (by omega) (by omega)
  refine ⟨s, p', q', e2, ?_, ?_, by omega, by omega⟩ <;> simp at hs <;> omega

theorem drawNumber_some (l : List Int) (hl : ∀ x ∈ l, 0 ≤ x ∧ x ≤ 255) (p q : Int) (h0 : 0 ≤ p) (h1 : p ≤ 4611686018427380000) :
    ∃ r p' q', spec_l01DrawNumber.f l p q = some (r, p', q') ∧ -9223372036854775808 ≤ r ∧ r ≤ 9223372036854775807 ∧ p ≤ p' ∧ p' ≤ p + 8 := by
  unfold spec_l01DrawNumber.f
  obtain ⟨r1, p1, q1, e1, a1, b1, g1, g2⟩ := pick_some l hl p q 4 h0 (by omega)
  simp only [e1, obind]
  by_cases c0 : r1 = 0
  · rw [if_pos c0]
    obtain ⟨r2, p2, q2, e2, a2, b2, g3, g4⟩ := pick_some l hl p1 q1 300 (by omega) (by omega)
    simp only [e2, obind]
    exact ⟨_, _, _, rfl, by omega, by omega, by omega, by omega⟩
  · rw [if_neg c0]
    by_cases c1 : r1 = 1
    · rw [if_pos c1]
      obtain ⟨r2, p2, q2, e2, m2, g3, g4⟩ := among_some l hl p1 q1 [0, 255, 256, 65535, 65536, 4294967296, 1099511627775, 9223372036854775807] (by decide) (by omega) (by omega)
      simp only [e2, obind]
      simp only [List.mem_cons, List.not_mem_nil, or_false] at m2
      exact ⟨_, _, _, rfl, by omega, by omega, by omega, by omega⟩
    · rw [if_neg c1]
      by_cases c2 : r1 = 2
      · rw [if_pos c2]
        obtain ⟨r2, p2, q2, e2, m2, g3, g4⟩ := among_some l hl p1 q1 [1, 2, 128, 129, 32768, 32769, 2147483648, 9223372036854775807] (by decide) (by omega) (by omega)
        simp only [e2, obind]
        exact ⟨_, _, _, rfl, (wrap64_bd _).1, (wrap64_bd _).2, by omega, by omega⟩
      · rw [if_neg c2]
        obtain ⟨r2, p2, q2, e2, a2, b2, g3, g4⟩ := pick_some l hl p1 q1 256 (by omega) (by omega)
        obtain ⟨r3, p3, q3, e3, m3, g5, g6⟩ := among_some l hl p2 q2 [0, 8, 16, 24, 32, 48] (by decide) (by omega) (by omega)
        obtain ⟨r4, p4, q4, e4, a4, b4, g7, g8⟩ := pick_some l hl p3 q3 5 (by omega) (by omega)
        simp only [e2, e3, e4, obind]
        simp only [List.mem_cons, List.not_mem_nil, or_false] at m3
        rw [if_pos (by omega)]
        exact ⟨_, _, _, rfl, (wrap64_bd _).1, (wrap64_bd _).2, by omega, by omega⟩
theorem empty_list (s : ByteArray) : s.toList = ([] : List UInt8) ↔ s.size = 0 := by
  rw [toList_nil]
theorem uint_back (n a : Int) (hn : n ≤ 9223372036854775807) (h : (putU n a).size ≠ 0) : uintAt (putU n a) 0 a = (n, true) ∧ ((putU n a).size : Int) = a := by
  by_cases hc : 1 ≤ a ∧ a ≤ 8 ∧ 0 ≤ n ∧ (a < 8 → n / 256 ^ a.toNat = 0)
  · have hp : putU n a = strOfNums (bytesN n a.toNat) := by unfold putU; rw [if_pos hc]
    have hsz : (putU n a).size = a.toNat := by rw [hp, size_ofNums, bytesN_length]
    have hlt : n < 256 ^ a.toNat := by
      by_cases h8 : a < 8
      · have hz := hc.2.2.2 h8
        have hpos : (0 : Int) < 256 ^ a.toNat := Int.pow_pos (by decide)
        have := Int.lt_mul_ediv_self_add (x := n) hpos
        rw [hz] at this
        omega
      · obtain rfl : a = 8 := by omega
        have : (256 : Int) ^ (8 : Int).toNat = 18446744073709551616 := by decide +kernel
        omega
    have hle : le (putU n a) 0 a.toNat = n := by
      rw [hp, le_bytes n a.toNat a.toNat (Nat.le_refl _), Int.emod_eq_of_lt hc.2.2.1 hlt]
    refine ⟨?_, by omega⟩
    unfold uintAt
    rw [hle, if_pos ⟨hc.1, hc.2.1, by omega, by omega, by omega⟩]
  · exact absurd (by unfold putU; rw [if_neg hc]; rfl) h
theorem half_twice (a : Int) (h1 : 1 ≤ a) : 2 * halfOf a = 256 ^ a.toNat := by
  obtain ⟨j, rfl⟩ : ∃ j : Nat, a = (j : Int) + 1 := ⟨a.toNat - 1, by omega⟩
  unfold halfOf
  rw [show ((j : Int) + 1).toNat = j + 1 by omega, Nat.add_sub_cancel, Int.pow_succ]
  omega
theorem half8 : halfOf 8 = 9223372036854775808 := by decide +kernel
theorem sint_back (n a : Int) (hn : -9223372036854775808 ≤ n ∧ n ≤ 9223372036854775807) (h : (putI n a).size ≠ 0) : sintAt (putI n a) 0 a = (n, true) ∧ ((putI n a).size : Int) = a := by
  by_cases hc : 1 ≤ a ∧ a ≤ 8 ∧ (a < 8 → -halfOf a ≤ n ∧ n ≤ halfOf a - 1)
  · have hp : putI n a = strOfNums (bytesN n a.toNat) := by unfold putI; rw [if_pos hc]
    have hsz : (putI n a).size = a.toNat := by rw [hp, size_ofNums, bytesN_length]
    have hr : -halfOf a ≤ n ∧ n ≤ halfOf a - 1 := by
      by_cases h8 : a < 8
      · exact hc.2.2 h8
      · obtain rfl : a = 8 := by omega
        rw [half8]; omega
    have h2 := half_twice a hc.1
    have hpos : (0 : Int) < 256 ^ a.toNat := Int.pow_pos (by decide)
    have hle : le (putI n a) 0 a.toNat = n % 256 ^ a.toNat := by rw [hp, le_bytes n a.toNat a.toNat (Nat.le_refl _)]
    refine ⟨?_, by omega⟩
    unfold sintAt
    rw [hle, if_pos ⟨hc.1, hc.2.1, by omega, by omega⟩]
    generalize halfOf a = H at *
    rw [← h2] at *
    by_cases hn0 : 0 ≤ n
    · rw [Int.emod_eq_of_lt hn0 (by omega), if_neg (by omega)]
    · have e : n % (2 * H) = n + 2 * H := by
        rw [← Int.add_emod_right, Int.emod_eq_of_lt (by omega) (by omega)]
      rw [e, if_pos (by omega)]
      congr 1
      omega
  · exact absurd (by unfold putI; rw [if_neg hc]; rfl) h
theorem int_bytes (s : ByteArray) (a n : Int) (h : (sintAt s a n).2 = true) : 0 ≤ a ∧ 1 ≤ n ∧ n ≤ 8 ∧ a + n ≤ s.size ∧ putI (sintAt s a n).1 n = s.extract a.toNat (a + n).toNat := by
  by_cases hc : 1 ≤ n ∧ n ≤ 8 ∧ 0 ≤ a ∧ a + n ≤ s.size
  · refine ⟨by omega, by omega, by omega, by omega, ?_⟩
    have he : sintAt s a n = (if 256 ^ n.toNat ≤ 2 * le s a n.toNat then le s a n.toNat - 256 ^ n.toNat else le s a n.toNat, true) := by unfold sintAt; rw [if_pos hc]
    obtain ⟨l0, l1⟩ := le_bd s a n.toNat
    have h2 := half_twice n hc.1
    have hb : strOfNums (bytesN (sintAt s a n).1 n.toNat) = s.extract a.toNat (a + n).toNat := by
      have hx := bytes_le s a.toNat n.toNat (by omega)
      rw [show (a + n).toNat = a.toNat + n.toNat by omega, ← hx, show ((a.toNat : Nat) : Int) = a by omega, he]
      congr 1
      show bytesN (if 256 ^ n.toNat ≤ 2 * le s a n.toNat then le s a n.toNat - 256 ^ n.toNat else le s a n.toNat) n.toNat = bytesN (le s a n.toNat) n.toNat
      split
      · have := bytesN_off (le s a n.toNat) (-1) n.toNat
        rw [← this]
        congr 1
        omega
      · rfl
    have hr : -halfOf n ≤ (sintAt s a n).1 ∧ (sintAt s a n).1 ≤ halfOf n - 1 := by
      rw [he]
      show -halfOf n ≤ (if 256 ^ n.toNat ≤ 2 * le s a n.toNat then le s a n.toNat - 256 ^ n.toNat else le s a n.toNat) ∧ (if 256 ^ n.toNat ≤ 2 * le s a n.toNat then le s a n.toNat - 256 ^ n.toNat else le s a n.toNat) ≤ halfOf n - 1
      generalize halfOf n = H at *
      split <;> omega
    unfold putI
    rw [if_pos ⟨hc.1, hc.2.1, fun _ => hr⟩, hb]
  · exact absurd h (by unfold sintAt; rw [if_neg hc]; decide)
theorem FnIntegers : laws_FnIntegers.Pure := by
  intro l m _ _ hl _ _ hm
  have hl' : ∀ x ∈ l, 0 ≤ x ∧ x ≤ 255 := fun x hx => bdu8 (hl x hx)
  have hm' : ∀ x ∈ m, 0 ≤ x ∧ x ≤ 255 := fun x hx => bdu8 (hm x hx)
  refine ⟨5000, ?_⟩
  have j0e : ∀ (x0 x1 : List Int), laws_FnIntegers.j0 5000 x0 x1 true = some true := fun _ _ => rfl
  have j2 : laws_FnIntegers.j2 4998 m false = some true := by
    show ((spec_DrawGetInt.f 4997 m).bind fun bt239 => ((impl_GetInt.f 4997 bt239.1 bt239.2.1 bt239.2.2).bind fun bt242 => (if bt242.2 = true then (if bt239.2.1 ≥ 0 then (if (wrap64 (bt239.2.1 + bt239.2.2)) ≤ (bt239.1.size : Int) then ((impl_PutInt.f 4997 bt242.1 bt239.2.2).bind fun t244 => (if 0 ≤ bt239.2.1 then (if bt239.2.1 ≤ (wrap64 (bt239.2.1 + bt239.2.2)) then (some (t244.toList == (bt239.1.extract (bt239.2.1 : Int).toNat ((wrap64 (bt239.2.1 + bt239.2.2)) : Int).toNat).toList)) else (none)) else (none))) else (some false)) else (some false)) else (some true)))) = some true
    unfold spec_DrawGetInt.f spec_l00From.f
    obtain ⟨s, p1, q1, e1, hs, _, g1, g2⟩ := word_some m hm' 0 0 12 (by omega) (by omega) (by omega) 4997 (by omega)
    obtain ⟨r2, p2, q2, e2, a2, b2, g3, g4⟩ := pick_some m hm' p1 q1 (wrap64 ((s.size : Int) + 3)) (by omega) (by omega)
    obtain ⟨r3, p3, q3, e3, a3, b3, g5, g6⟩ := pick_some m hm' p2 q2 11 (by omega) (by omega)
    simp only [obind, e1, e2, e3]
    rw [w64 (x := (s.size : Int) + 3) (by omega) (by omega)] at b2
    rw [w64 (x := r2 - 1) (by omega) (by omega), w64 (x := r3 - 1) (by omega) (by omega)]
    obtain ⟨a, ha⟩ : ∃ a, a = r2 - 1 := ⟨_, rfl⟩
    rw [← ha]
    generalize hn : r3 - 1 = n at *
    rw [implGetInt_eq s a n (by omega) (by omega) 4997 (by omega)]
    simp only [obind]
    by_cases hz : (sintAt s a n).2 = true
    · obtain ⟨h0, h1, h2, h3, h4⟩ := int_bytes s a n hz
      rw [if_pos hz, if_pos h0, w64 (x := a + n) (by omega) (by omega), if_pos h3, implPutInt_eq _ n 4997 (by omega)]
      simp only [obind]
      rw [if_pos h0, if_pos (by omega), h4]
      simp
    · rw [if_neg hz]
  have j1 : laws_FnIntegers.j1 4999 l m false = some true := by
    show ((spec_DrawPutInt.f l).bind fun bt233 => ((impl_PutInt.f 4998 bt233.1 bt233.2).bind fun t235 => ((impl_GetInt.f 4998 t235 0 bt233.2).bind fun bt236 => ((spec_PutInt.f 4998 bt233.1 bt233.2).bind fun t238 => (if ((t235.toList == ([] : List UInt8)) != (t238.toList == ([] : List UInt8))) = true then (laws_FnIntegers.j2 4998 m true) else (if t235.toList = ([] : List UInt8) then (laws_FnIntegers.j2 4998 m false) else (if bt236.2 = true then (if bt236.1 = bt233.1 then (laws_FnIntegers.j2 4998 m ((t235.size : Int) != bt233.2)) else (laws_FnIntegers.j2 4998 m true)) else (laws_FnIntegers.j2 4998 m true)))))))) = some true
    unfold spec_DrawPutInt.f spec_l00From.f
    obtain ⟨n, p1, q1, e1, n0, n1, g1, g2⟩ := drawNumber_some l hl' 0 0 (by omega) (by omega)
    obtain ⟨r2, p2, q2, e2, a2, b2, g3, g4⟩ := pick_some l hl' p1 q1 11 (by omega) (by omega)
    simp only [obind, e1, e2]
    rw [w64 (x := r2 - 1) (by omega) (by omega)]
    obtain ⟨a, ha⟩ : ∃ a, a = r2 - 1 := ⟨_, rfl⟩
    rw [← ha]
    have hsz : (putI n a).size ≤ 8 := by
      unfold putI
      split
      · rw [size_ofNums, bytesN_length]; omega
      · exact Nat.zero_le _
    rw [implPutInt_eq n a 4998 (by omega), specPutInt_eq n a 4998 (by omega)]
    simp only [obind]
    rw [implGetInt_eq _ 0 a (by omega) (by omega) 4998 (by omega)]
    simp only [obind]
    rw [if_neg (by simp)]
    by_cases hz : (putI n a).toList = ([] : List UInt8)
    · rw [if_pos hz]; exact j2
    · obtain ⟨h1, h2⟩ := sint_back n a ⟨n0, n1⟩ (fun h => hz ((empty_list _).2 h))
      rw [if_neg hz, h1, h2]
      simp only [if_true, bne_self_eq_false]
      exact j2
  have j0 : laws_FnIntegers.j0 5000 l m false = some true := by
    show ((spec_DrawPutUint.f l).bind fun bt227 => ((impl_PutUint.f 4999 bt227.1 bt227.2).bind fun t229 => ((impl_GetUint.f 4999 t229 0 bt227.2).bind fun bt230 => ((spec_PutUint.f 4999 bt227.1 bt227.2).bind fun t232 => (if ((t229.toList == ([] : List UInt8)) != (t232.toList == ([] : List UInt8))) = true then (laws_FnIntegers.j1 4999 l m true) else (if t229.toList = ([] : List UInt8) then (laws_FnIntegers.j1 4999 l m false) else (if bt230.2 = true then (if bt230.1 = bt227.1 then (laws_FnIntegers.j1 4999 l m ((t229.size : Int) != bt227.2)) else (laws_FnIntegers.j1 4999 l m true)) else (laws_FnIntegers.j1 4999 l m true)))))))) = some true
    unfold spec_DrawPutUint.f spec_l00From.f
    obtain ⟨n, p1, q1, e1, n0, n1, g1, g2⟩ := drawNumber_some l hl' 0 0 (by omega) (by omega)
    obtain ⟨r2, p2, q2, e2, a2, b2, g3, g4⟩ := pick_some l hl' p1 q1 11 (by omega) (by omega)
    simp only [obind, e1, e2]
    rw [w64 (x := r2 - 1) (by omega) (by omega)]
    obtain ⟨a, ha⟩ : ∃ a, a = r2 - 1 := ⟨_, rfl⟩
    rw [← ha]
    have hsz : (putU n a).size ≤ 8 := by
      unfold putU
      split
      · rw [size_ofNums, bytesN_length]; omega
      · exact Nat.zero_le _
    have hspec : spec_PutUint.f 4999 n a = some (putU n a) := by
      unfold spec_PutUint.f
      rw [specPutUint_eq n a (by omega) 4999 (by omega)]
      simp only [obind]
    rw [implPutUint_eq n a (by omega) 4999 (by omega), hspec]
    simp only [obind]
    rw [implGetUint_eq _ 0 a (by omega) (by omega) 4999 (by omega)]
    simp only [obind]
    rw [if_neg (by simp)]
    by_cases hz : (putU n a).toList = ([] : List UInt8)
    · rw [if_pos hz]; exact j1
    · obtain ⟨h1, h2⟩ := uint_back n a n1 (fun h => hz ((empty_list _).2 h))
      rw [if_neg hz, h1, h2]
      simp only [if_true, bne_self_eq_false]
      exact j1
  unfold laws_FnIntegers.f laws_b10Long.f
  simp only [obind]
  split
  · exact j0e l m
  · by_cases hm6 : (m.length : Int) > 1048576
    · rw [decide_eq_true hm6]; exact j0e l m
    · rw [decide_eq_false hm6]; exact j0

end Go.Proofs.Ytlcbbiiohhplfaa.Pure
