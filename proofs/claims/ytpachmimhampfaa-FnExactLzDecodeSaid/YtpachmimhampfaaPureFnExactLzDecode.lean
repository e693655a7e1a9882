/- LzDecode of the program answers as the reference's, for all arguments. -/
import Derived.Test.YtpachmimhampfaaKit
import Derived.Test.YtpachmimhampfaaMFnExactLzDecodex2
namespace Go.Proofs.Ytpachmimhampfaa.Pure
open Go.RowKit Go.Proofs.Ytpachmimhampfaa.PFnExactLzDecode Go.Proofs.YtpachmimhampfaaW.PrintWords Go.Proofs.YtpachmimhampfaaW.PrintLast Go.Proofs.Ytpachmimhampfaa.Kit

/-! ### within -/
theorem within_eq (a b c : Int) : impl_within.f a b c = some (decide (b ≤ a ∧ a ≤ c)) := by
  unfold impl_within.f
  by_cases h : b ≤ a
  · rw [if_pos h]; simp [h]
  · rw [if_neg h]; simp [h]

/-! ### cut -/
theorem cut_yes (s : ByteArray) (a n : Int) (hs : s.size ≤ 140737488351232) (h0 : 0 ≤ n) (h1 : 0 ≤ a) (h2 : a + n ≤ s.size) :
    impl_cut.f s a n = some (s.extract a.toNat (a + n).toNat, true) := by
  unfold impl_cut.f
  rw [if_neg (by omega), w64 (by omega) (by omega), within_eq, w64 (by omega) (by omega)]
  simp only [obind]
  rw [if_pos (by simp; omega), if_pos h1, if_pos (by omega), if_pos h2]
theorem cut_no (s : ByteArray) (a n : Int) (hs : s.size ≤ 140737488351232) (hn : -9223372036854775808 ≤ n ∧ n ≤ 9223372036854775807)
    (h : n < 0 ∨ a < 0 ∨ s.size < a + n) : impl_cut.f s a n = some ((⟨#[]⟩ : ByteArray), false) := by
  unfold impl_cut.f
  by_cases hn0 : n < 0
  · rw [if_pos hn0]
  · rw [if_neg hn0, w64 (by omega) (by omega), within_eq]
    simp only [obind]
    rw [if_neg (by simp; omega)]

/-! ### getBits -/
theorem getBits_l0 (s : ByteArray) (hs : s.size ≤ 8) (d : Nat) : ∀ (k i : Nat), i + d = s.size → d < k →
    impl_getBits.l0 k s (le s 0 i) s.size i = some (le s 0 s.size) := by
  induction d with
  | zero =>
    intro k i hi hk
    obtain ⟨k, rfl⟩ : ∃ m, k = m + 1 := ⟨k - 1, by omega⟩
    simp only [impl_getBits.l0]
    rw [if_neg (by omega), show i = s.size by omega]
  | succ d ih =>
    intro k i hi hk
    obtain ⟨k, rfl⟩ : ∃ m, k = m + 1 := ⟨k - 1, by omega⟩
    simp only [impl_getBits.l0]
    rw [if_pos (by omega), if_pos (by omega), if_pos (by omega), w64 (x := 8 * (i : Int)) (by omega) (by omega), if_pos (by omega), w64 (x := (i : Int) + 1) (by omega) (by omega)]
    obtain ⟨b0, b1⟩ := bt_range s i
    obtain ⟨l0, l1⟩ := le_bd s 0 i
    rw [wrap_u64, Int.emod_eq_of_lt b0 (by omega)]
    rw [or_shl_byte (le s 0 i) (bt s i) i (by omega) l0 l1 b0 b1]
    have := ih k (i + 1) (by omega) (by omega)
    rw [← this]
    simp [le]
theorem getBits_eq (s : ByteArray) (hs : s.size ≤ 8) (k : Nat) (hk : 8 < k) : impl_getBits.f k s = some (le s 0 s.size) := by
  unfold impl_getBits.f
  exact getBits_l0 s hs s.size k 0 (by omega) (by omega)

/-! ### decoder -/
theorem extract_all_size (s : ByteArray) (i : Nat) : (s.extract i s.size).size = s.size - i := by rw [size_extract _ _ _ (Nat.le_refl _)]
theorem take_yes (r : ByteArray) (b : Bool) (n : Int) (hr : r.size ≤ 140737488351232) (h0 : 0 ≤ n) (h1 : n ≤ r.size) :
    impl_decoder_take.f r b n = some (r.extract 0 n.toNat, r.extract n.toNat r.size, b) := by
  unfold impl_decoder_take.f
  rw [cut_yes r 0 n hr h0 (by omega) (by omega)]
  simp only [obind, if_true]
  rw [if_pos h0, if_pos h1, Int.zero_add]
  rfl
theorem take_no (r : ByteArray) (b : Bool) (n : Int) (hr : r.size ≤ 140737488351232) (hn : -9223372036854775808 ≤ n ∧ n ≤ 9223372036854775807) (h : n < 0 ∨ r.size < n) :
    impl_decoder_take.f r b n = some ((⟨#[]⟩ : ByteArray), r, true) := by
  unfold impl_decoder_take.f
  rw [cut_no r 0 n hr hn (by omega)]
  simp only [obind]
  rw [if_neg (by simp)]
theorem number_yes (r : ByteArray) (b : Bool) (n : Int) (hr : r.size ≤ 140737488351232) (h0 : 0 ≤ n) (h8 : n ≤ 8) (h1 : n ≤ r.size) (k : Nat) (hk : 8 < k) :
    impl_decoder_number.f k r b n = some (wrap64 (le r 0 n.toNat), r.extract n.toNat r.size, b) := by
  unfold impl_decoder_number.f
  rw [take_yes r b n hr h0 h1]
  have hs : (r.extract 0 n.toNat).size = n.toNat := by rw [size_extract _ _ _ (by omega)]; omega
  simp only [obind]
  rw [getBits_eq _ (by omega) k hk, hs, le_extract r 0 n.toNat (by omega) n.toNat (by omega)]
  simp only [obind]
  rfl
theorem number_no (r : ByteArray) (b : Bool) (n : Int) (hr : r.size ≤ 140737488351232) (hn : -9223372036854775808 ≤ n ∧ n ≤ 9223372036854775807) (h : n < 0 ∨ r.size < n) (k : Nat) (hk : 8 < k) :
    impl_decoder_number.f k r b n = some (0, r, true) := by
  unfold impl_decoder_number.f
  rw [take_no r b n hr hn h]
  simp only [obind]
  rw [getBits_eq (⟨#[]⟩ : ByteArray) (Nat.zero_le _) k hk]
  simp only [obind]
  show some (wrap64 0, r, true) = _
  rw [w64 (by omega) (by omega)]
theorem byte_yes (r : ByteArray) (b : Bool) (hr : r.size ≤ 140737488351232) (h1 : 0 < r.size) (k : Nat) (hk : 8 < k) : impl_decoder_byte.f k r b = some (bt r 0, r.extract 1 r.size, b) := by
  unfold impl_decoder_byte.f
  rw [number_yes r b 1 hr (by omega) (by omega) (by omega) k hk]
  simp only [obind]
  obtain ⟨b0, b1⟩ := bt_range r 0
  have e : le r 0 (1 : Int).toNat = bt r 0 := by
    show le r 0 1 = _
    simp [le]
  rw [e, w64 (by omega) (by omega)]
  rfl
theorem byte_no (r : ByteArray) (b : Bool) (h1 : r.size = 0) (k : Nat) (hk : 8 < k) : impl_decoder_byte.f k r b = some (0, r, true) := by
  unfold impl_decoder_byte.f
  rw [number_no r b 1 (by omega) (by omega) (by omega) k hk]
  simp only [obind]

def copyN (far : Int) : Nat → List Int → List Int
  | 0, o => o
  | n + 1, o => copyN far n (o ++ [rd o (o.length - far)])
theorem copyN_length (far : Int) : ∀ (n : Nat) (o : List Int), (copyN far n o).length = o.length + n
  | 0, o => rfl
  | n + 1, o => by rw [copyN, copyN_length]; simp; omega
def bad : ByteArray × Bool := ((⟨#[]⟩ : ByteArray), false)
def lzD (s : ByteArray) : Nat → List Int → Nat → ByteArray × Bool
  | 0, out, _ => (strOfNums out, true)
  | d + 1, out, i =>
    if i < s.size then
      if bt s i < 128 then
        if i + 2 + bt s i > s.size ∨ out.length + bt s i + 1 > 1100 then bad
        else lzD s d (out ++ bytesOf (s.extract (i + 1) (i + 2 + (bt s i).toNat))) (i + 2 + (bt s i).toNat)
      else if (i : Int) + 3 > s.size then bad
      else if bt s (i + 1) + 256 * bt s (i + 2) < 1 ∨ bt s (i + 1) + 256 * bt s (i + 2) > out.length ∨ out.length + bt s i - 125 > 1100 then bad
      else lzD s d (copyN (bt s (i + 1) + 256 * bt s (i + 2)) (bt s i - 125).toNat out) (i + 3)
    else (strOfNums out, true)
theorem lit_length (s : ByteArray) (i j : Nat) (h : j ≤ s.size) : (bytesOf (s.extract i j)).length = j - i := by
  rw [bytesOf_length, size_extract _ _ _ h]
theorem spec_l1 (s : ByteArray) (i : Int) (far : Int) (n : Nat) : ∀ (k : Nat) (out : List Int), n < k → 1 ≤ far → far ≤ out.length → out.length + n ≤ 100000 →
    spec_LzDecode.l1 k s out i far n = spec_LzDecode.l0 (k - n - 1) s (copyN far n out) (wrap64 (i + 3)) := by
  induction n with
  | zero =>
    intro k out hk h1 h2 h3
    obtain ⟨k, rfl⟩ : ∃ m, k = m + 1 := ⟨k - 1, by omega⟩
    simp only [spec_LzDecode.l1]
    rw [if_neg (by omega)]
    rfl
  | succ n ih =>
    intro k out hk h1 h2 h3
    obtain ⟨k, rfl⟩ : ∃ m, k = m + 1 := ⟨k - 1, by omega⟩
    simp only [spec_LzDecode.l1]
    rw [if_pos (by omega), w64 (x := (out.length : Int) - far) (by omega) (by omega), if_pos (by omega), if_pos (by omega), if_pos (by omega), w64 (x := ((n + 1 : Nat) : Int) - 1) (by omega) (by omega), show ((n + 1 : Nat) : Int) - 1 = n by omega]
    rw [ih k _ (by omega) h1 (by simp; omega) (by simp; omega)]
    rw [copyN, show k + 1 - (n + 1) - 1 = k - n - 1 by omega]
theorem spec_l0 (s : ByteArray) (hs : s.size ≤ 1048576) (d : Nat) : ∀ (k i : Nat) (out : List Int), s.size ≤ i + d → i ≤ s.size → out.length ≤ 1100 → 200 * d + 10 ≤ k →
    spec_LzDecode.l0 k s out i = some (lzD s d out i) := by
  induction d with
  | zero =>
    intro k i out h1 h2 h3 hk
    obtain ⟨k, rfl⟩ : ∃ m, k = m + 1 := ⟨k - 1, by omega⟩
    simp only [spec_LzDecode.l0, lzD]
    rw [if_neg (by omega)]
  | succ d ih =>
    intro k i out h1 h2 h3 hk
    obtain ⟨k, rfl⟩ : ∃ m, k = m + 1 := ⟨k - 1, by omega⟩
    simp only [spec_LzDecode.l0, lzD]
    obtain ⟨b0, b1⟩ := bt_range s i
    obtain ⟨c0, c1⟩ := bt_range s (i + 1)
    obtain ⟨e0, e1⟩ := bt_range s (i + 2)
    by_cases hi : i < s.size
    · rw [if_pos (by omega), if_pos (by omega), if_pos hi, w64 (x := bt s i) (by omega) (by omega)]
      by_cases ht : bt s i < 128
      · rw [if_pos ht, if_pos ht, w64 (x := (i : Int) + 2) (by omega) (by omega), w64 (x := (i : Int) + 2 + bt s i) (by omega) (by omega), w64 (x := (out.length : Int) + bt s i) (by omega) (by omega), w64 (x := (out.length : Int) + bt s i + 1) (by omega) (by omega)]
        by_cases hc : (i : Int) + 2 + bt s i > s.size
        · rw [if_pos hc, if_pos (.inl hc)]; rfl
        · rw [if_neg hc]
          by_cases hd : (out.length : Int) + bt s i + 1 > 1100
          · rw [if_pos hd, if_pos (.inr hd)]; rfl
          · rw [if_neg hd, if_neg (show ¬ ((i : Int) + 2 + bt s i > s.size ∨ (out.length : Int) + bt s i + 1 > 1100) by omega), w64 (x := (i : Int) + 1) (by omega) (by omega), if_pos (by omega), if_pos (by omega), if_pos (by omega)]
            have e1 : ((i : Int) + 1).toNat = i + 1 := by omega
            have e2 : ((i : Int) + 2 + bt s i).toNat = i + 2 + (bt s i).toNat := by omega
            rw [e1, e2, size_extract _ _ _ (by omega), if_pos (by omega), w64 (x := bt s i + 2) (by omega) (by omega), w64 (x := (i : Int) + (bt s i + 2)) (by omega) (by omega)]
            have := ih k (i + 2 + (bt s i).toNat) (out ++ bytesOf (s.extract (i + 1) (i + 2 + (bt s i).toNat))) (by omega) (by omega) (by rw [List.length_append, lit_length _ _ _ (by omega)]; omega) (by omega)
            rw [← this]
            congr 1
            omega
      · rw [if_neg ht, if_neg ht, w64 (x := (i : Int) + 3) (by omega) (by omega)]
        by_cases hc : (i : Int) + 3 > s.size
        · rw [if_pos hc, if_pos hc]; rfl
        · rw [if_neg hc, if_neg hc, w64 (x := (i : Int) + 1) (by omega) (by omega), if_pos (by omega), if_pos (by omega), w64 (x := (i : Int) + 2) (by omega) (by omega), if_pos (by omega), if_pos (by omega)]
          rw [w64 (x := bt s ((i : Int) + 1)) (by omega) (by omega), w64 (x := bt s ((i : Int) + 2)) (by omega) (by omega), w64 (x := 256 * bt s ((i : Int) + 2)) (by omega) (by omega), w64 (x := bt s ((i : Int) + 1) + 256 * bt s ((i : Int) + 2)) (by omega) (by omega), w64 (x := (out.length : Int) + bt s i) (by omega) (by omega), w64 (x := (out.length : Int) + bt s i - 125) (by omega) (by omega)]
          have j1e : ∀ x81, spec_LzDecode.j1 k s out i (bt s i) (bt s ((i : Int) + 1) + 256 * bt s ((i : Int) + 2)) x81 = if x81 = true then some bad else (spec_LzDecode.l1 (k - 1) s out i (bt s ((i : Int) + 1) + 256 * bt s ((i : Int) + 2)) (wrap64 (bt s i - 125))) := fun x81 => by
            obtain ⟨k, rfl⟩ : ∃ m, k = m + 1 := ⟨k - 1, by omega⟩
            rfl
          simp only [j1e, if_true, decide_eq_true_eq]
          by_cases hf : bt s ((i : Int) + 1) + 256 * bt s ((i : Int) + 2) < 1
          · rw [if_pos hf, if_pos (.inl hf)]
          · rw [if_neg hf]
            by_cases hg : bt s ((i : Int) + 1) + 256 * bt s ((i : Int) + 2) > out.length
            · rw [if_pos hg, if_pos (.inr (.inl hg))]
            · rw [if_neg hg]
              by_cases hh : (out.length : Int) + bt s i - 125 > 1100
              · rw [if_pos hh, if_pos (.inr (.inr hh))]
              · rw [if_neg hh, if_neg (by omega), w64 (x := bt s i - 125) (by omega) (by omega), show bt s i - 125 = ((bt s i - 125).toNat : Int) by omega]
                rw [spec_l1 s i _ _ (k - 1) out (by omega) (by omega) (by omega) (by omega), w64 (x := (i : Int) + 3) (by omega) (by omega)]
                exact ih _ (i + 3) _ (by omega) (by omega) (by rw [copyN_length]; omega) (by omega)
    · rw [if_neg (by omega), if_neg hi]
theorem impl_l1 (r : ByteArray) (b : Bool) (far : Int) (N d : Nat) : ∀ (k i : Nat) (out : List Int), i + d = N → d < k → 1 ≤ far → far ≤ out.length → out.length + d ≤ 100000 → N ≤ 1000 →
    impl_LzDecode.l1 k out far N i r b = if ((copyN far d out).length : Int) > 1100 then some bad else impl_LzDecode.l0 (k - d - 1) (copyN far d out) r b := by
  induction d with
  | zero =>
    intro k i out hi hk h1 h2 h3 h4
    obtain ⟨k, rfl⟩ : ∃ m, k = m + 1 := ⟨k - 1, by omega⟩
    simp only [impl_LzDecode.l1]
    rw [if_neg (by omega)]
    rfl
  | succ d ih =>
    intro k i out hi hk h1 h2 h3 h4
    obtain ⟨k, rfl⟩ : ∃ m, k = m + 1 := ⟨k - 1, by omega⟩
    simp only [impl_LzDecode.l1]
    rw [if_pos (by omega), w64 (x := (out.length : Int) - far) (by omega) (by omega), if_pos (by omega), if_pos (by omega), if_pos (by omega), w64 (x := (i : Int) + 1) (by omega) (by omega)]
    have := ih k (i + 1) (out ++ [rd out (out.length - far)]) (by omega) (by omega) h1 (by simp; omega) (by simp; omega) h4
    rw [show ((i + 1 : Nat) : Int) = (i : Int) + 1 by omega] at this
    rw [this, copyN, show k + 1 - (d + 1) - 1 = k - d - 1 by omega]
theorem extract_tail (s : ByteArray) (i j : Nat) (h : i + j ≤ s.size) : (s.extract i s.size).extract j (s.extract i s.size).size = s.extract (i + j) s.size := by
  have h0 := extract_all_size s i
  have h1 := extract_all_size s (i + j)
  apply ba_ext
  · rw [extract_all_size, h0, h1]; omega
  · intro q hq
    rw [extract_all_size, h0] at hq
    rw [bt_extract _ j _ q (by omega) (by omega) (Nat.le_refl _), show ((j : Int) + q) = ((j + q : Nat) : Int) by omega, bt_extract s i s.size _ (by omega) (by omega) (Nat.le_refl _), bt_extract s (i + j) s.size q (by omega) (by omega) (Nat.le_refl _)]
    congr 1
    omega
theorem extract_head (s : ByteArray) (i j : Nat) (h : i + j ≤ s.size) : (s.extract i s.size).extract 0 j = s.extract i (i + j) := by
  have h0 := extract_all_size s i
  apply ba_ext
  · rw [size_extract _ _ _ (by omega), size_extract _ _ _ h]; omega
  · intro q hq
    rw [size_extract _ _ _ (by omega)] at hq
    rw [bt_extract _ 0 _ q (by omega) (by omega) (by omega), show (((0 : Nat) : Int) + q) = q by omega, bt_extract s i s.size _ (by omega) (by omega) (Nat.le_refl _), bt_extract s i (i + j) q (by omega) (by omega) h]
theorem le_two (r : ByteArray) : le r 0 2 = bt r 0 + 256 * bt r 1 := by simp [le]; omega
theorem impl_bad_l0 (k : Nat) (out : List Int) (r : ByteArray) (hk : 2 ≤ k) : impl_LzDecode.l0 k out r true = some bad := by
  obtain ⟨k, rfl⟩ : ∃ m, k = m + 2 := ⟨k - 2, by omega⟩
  simp only [impl_LzDecode.l0, impl_LzDecode.j1]
  simp [bad]
theorem impl_l0 (s : ByteArray) (hs : s.size ≤ 1048576) (d : Nat) : ∀ (k i : Nat) (out : List Int), s.size ≤ i + d → i ≤ s.size → out.length ≤ 1100 → 300 * d + 30 ≤ k →
    impl_LzDecode.l0 k out (s.extract i s.size) false = some (lzD s d out i) := by
  induction d with
  | zero =>
    intro k i out h1 h2 h3 hk
    obtain ⟨k, rfl⟩ : ∃ m, k = m + 2 := ⟨k - 2, by omega⟩
    have hz := extract_all_size s i
    simp only [impl_LzDecode.l0, impl_LzDecode.j1, lzD]
    rw [if_pos ((toList_nil _).2 (by omega))]
    simp
  | succ d ih =>
    intro k i out h1 h2 h3 hk
    obtain ⟨k, rfl⟩ : ∃ m, k = m + 2 := ⟨k - 2, by omega⟩
    have hz := extract_all_size s i
    obtain ⟨b0, b1⟩ := bt_range s i
    obtain ⟨c0, c1⟩ := bt_range s (i + 1)
    obtain ⟨e0, e1⟩ := bt_range s (i + 2)
    simp only [impl_LzDecode.l0, impl_LzDecode.j1, lzD]
    by_cases hi : i < s.size
    · have hb : bt (s.extract i s.size) 0 = bt s i := by
        have := bt_extract s i s.size 0 (by omega) (by omega) (Nat.le_refl _)
        rw [this]
        congr 1
      rw [if_neg (fun h => by have := (toList_nil _).1 h; omega), if_pos (by rfl), if_pos hi]
      rw [byte_yes _ false (by omega) (by omega) k (by omega), hb, extract_tail s i 1 (by omega)]
      have hz1 := extract_all_size s (i + 1)
      simp only [obind]
      by_cases ht : bt s i < 128
      · rw [if_pos ht, if_pos ht, w64 (x := bt s i + 1) (by omega) (by omega)]
        by_cases hc : (i : Int) + 2 + bt s i > s.size
        · rw [if_pos (.inl hc), take_no _ false _ (by omega) (by omega) (by omega)]
          simp only [obind]
          have hE : (⟨#[]⟩ : ByteArray).size = 0 := rfl
          rw [hE, if_pos (by omega)]
          have hB : bytesOf (⟨#[]⟩ : ByteArray) = [] := rfl
          rw [hB, List.append_nil, if_neg (by omega), impl_bad_l0 k out _ (by omega)]
        · rw [take_yes _ false _ (by omega) (by omega) (by omega)]
          simp only [obind]
          have e1 : (bt s i + 1).toNat = (bt s i).toNat + 1 := by omega
          rw [e1, extract_head s (i + 1) _ (by omega), extract_tail s (i + 1) _ (by omega), size_extract _ _ _ (by omega), if_pos (by omega)]
          have e2 : i + 1 + ((bt s i).toNat + 1) = i + 2 + (bt s i).toNat := by omega
          rw [e2]
          have hl : (out ++ bytesOf (s.extract (i + 1) (i + 2 + (bt s i).toNat))).length = out.length + (bt s i).toNat + 1 := by
            rw [List.length_append, lit_length _ _ _ (by omega)]; omega
          rw [hl]
          by_cases hd : (out.length : Int) + bt s i + 1 > 1100
          · rw [if_pos (show (((out.length + (bt s i).toNat + 1 : Nat) : Int) > 1100) by omega), if_pos (.inr hd)]; rfl
          · rw [if_neg (show ¬ (((out.length + (bt s i).toNat + 1 : Nat) : Int) > 1100) by omega), if_neg (by omega)]
            exact ih k _ _ (by omega) (by omega) (by omega) (by omega)
      · rw [if_neg ht, if_neg ht]
        by_cases hc : (i : Int) + 3 > s.size
        · rw [if_pos hc, number_no _ false 2 (by omega) (by omega) (by omega) k (by omega)]
          simp only [obind, within_eq]
          rw [if_neg (by simp)]
          rfl
        · rw [if_neg hc, number_yes _ false 2 (by omega) (by omega) (by omega) (by omega) k (by omega)]
          simp only [obind, within_eq, decide_eq_true_eq]
          have e2 : (2 : Int).toNat = 2 := rfl
          rw [e2, le_two, bt_extract s (i + 1) s.size 0 (by omega) (by omega) (Nat.le_refl _), bt_extract s (i + 1) s.size 1 (by omega) (by omega) (Nat.le_refl _), extract_tail s (i + 1) 2 (by omega)]
          have e3 : (((i + 1 : Nat) : Int) + 0) = (i : Int) + 1 := by omega
          have e4 : (((i + 1 : Nat) : Int) + 1) = (i : Int) + 2 := by omega
          rw [e3, e4, w64 (x := bt s ((i : Int) + 1) + 256 * bt s ((i : Int) + 2)) (by omega) (by omega)]
          by_cases hf : 1 ≤ bt s ((i : Int) + 1) + 256 * bt s ((i : Int) + 2) ∧ bt s ((i : Int) + 1) + 256 * bt s ((i : Int) + 2) ≤ out.length
          · rw [if_pos hf, w64 (x := bt s i - 125) (by omega) (by omega)]
            have e5 : bt s i - 125 = ((bt s i - 125).toNat : Int) := by omega
            have hn := impl_l1 (s.extract (i + 3) s.size) false (bt s ((i : Int) + 1) + 256 * bt s ((i : Int) + 2)) (bt s i - 125).toNat (bt s i - 125).toNat k 0 out (by omega) (by omega) hf.1 hf.2 (by omega) (by omega)
            rw [← e5] at hn
            rw [show i + 1 + 2 = i + 3 by omega]
            rw [show ((0 : Nat) : Int) = 0 from rfl] at hn
            rw [hn, copyN_length]
            by_cases hh : (out.length : Int) + bt s i - 125 > 1100
            · rw [if_pos (by omega), if_pos (.inr (.inr hh))]
            · rw [if_neg (by omega), if_neg (by omega)]
              exact ih _ (i + 3) _ (by omega) (by omega) (by rw [copyN_length]; omega) (by omega)
          · rw [if_neg hf, if_pos (by omega)]
            rfl
    · rw [if_pos ((toList_nil _).2 (by omega)), if_neg (by simp), if_neg (by simp), if_neg hi]
theorem FnExactLzDecode : laws_FnExactLzDecode.Pure := by
  intro s hs
  refine ⟨300 * s.size + 40, ?_⟩
  unfold laws_FnExactLzDecode.f
  split
  · rfl
  · have h0 : s.extract 0 s.size = s := by
      apply ba_ext
      · rw [extract_all_size]; rfl
      · intro q hq
        rw [extract_all_size] at hq
        rw [bt_extract s 0 s.size q (by omega) (by omega) (Nat.le_refl _)]
        congr 1
        omega
    have h1 : spec_LzDecode.f (300 * s.size + 40) s = some (lzD s s.size [] 0) := spec_l0 s (by omega) s.size _ 0 [] (by omega) (by omega) (by simp) (by omega)
    have h2 : impl_LzDecode.f (300 * s.size + 40) s = some (lzD s s.size [] 0) := by
      have := impl_l0 s (by omega) s.size (300 * s.size + 40) 0 [] (by omega) (by omega) (by simp) (by omega)
      rw [h0] at this
      exact this
    rw [h1, h2]
    simp

end Go.Proofs.Ytpachmimhampfaa.Pure
