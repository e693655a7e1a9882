/- DecodeHeader of the program answers as the reference's, for all arguments. -/
import Derived.Test.YtlcbbiiohhplfaaKit
import Derived.Test.YtlcbbiiohhplfaaMFnExactDecodeHeaderx7
namespace Go.Proofs.Ytlcbbiiohhplfaa.Pure
open Go.RowKit Go.Proofs.Ytlcbbiiohhplfaa.PFnExactDecodeHeader Go.Proofs.YtlcbbiiohhplfaaW.PrintWords Go.Proofs.YtlcbbiiohhplfaaW.PrintLast Go.Proofs.Ytlcbbiiohhplfaa.Kit

/-! ### within -/
theorem within_eq (a b c : Int) : impl_within.f a b c = some (decide (b ≤ a ∧ a ≤ c)) := by
  unfold impl_within.f
  by_cases h : b ≤ a
  · rw [if_pos h]; simp [h]
  · rw [if_neg h]; simp [h]

/-! ### cut -/
theorem cut_yes (s : ByteArray) (a n : Int) (hs : s.size ≤ 140737488351232) (h0 : 0 ≤ n) (h1 : 0 ≤ a) (h2 : a + n ≤ s.size) :
    impl_cut.f s a n = some (s.extract a.toNat (a + n).toNat, true) := by
  unfold impl_cut.f
  rw [if_neg (by omega), w64 (by omega) (by omega), within_eq, w64 (by omega) (by omega)]
  simp only [obind]
  rw [if_pos (by simp; omega), if_pos h1, if_pos (by omega), if_pos h2]
theorem cut_no (s : ByteArray) (a n : Int) (hs : s.size ≤ 140737488351232) (hn : -9223372036854775808 ≤ n ∧ n ≤ 9223372036854775807)
    (h : n < 0 ∨ a < 0 ∨ s.size < a + n) : impl_cut.f s a n = some ((⟨#[]⟩ : ByteArray), false) := by
  unfold impl_cut.f
  by_cases hn0 : n < 0
  · rw [if_pos hn0]
  · rw [if_neg hn0, w64 (by omega) (by omega), within_eq]
    simp only [obind]
    rw [if_neg (by simp; omega)]

/-! ### getBits -/
theorem getBits_l0 (s : ByteArray) (hs : s.size ≤ 8) (d : Nat) : ∀ (k i : Nat), i + d = s.size → d < k →
    impl_getBits.l0 k s (le s 0 i) s.size i = some (le s 0 s.size) := by
  induction d with
  | zero =>
    intro k i hi hk
    obtain ⟨k, rfl⟩ : ∃ m, k = m + 1 := ⟨k - 1, by omega⟩
    simp only [impl_getBits.l0]
    rw [if_neg (by omega), show i = s.size by omega]
  | succ d ih =>
    intro k i hi hk
    obtain ⟨k, rfl⟩ : ∃ m, k = m + 1 := ⟨k - 1, by omega⟩
    simp only [impl_getBits.l0]
    rw [if_pos (by omega), if_pos (by omega), if_pos (by omega), w64 (x := 8 * (i : Int)) (by omega) (by omega), if_pos (by omega), w64 (x := (i : Int) + 1) (by omega) (by omega)]
    obtain ⟨b0, b1⟩ := bt_range s i
    obtain ⟨l0, l1⟩ := le_bd s 0 i
    rw [wrap_u64, Int.emod_eq_of_lt b0 (by omega)]
    rw [or_shl_byte (le s 0 i) (bt s i) i (by omega) l0 l1 b0 b1]
    have := ih k (i + 1) (by omega) (by omega)
    rw [← this]
    simp [le]
theorem getBits_eq (s : ByteArray) (hs : s.size ≤ 8) (k : Nat) (hk : 8 < k) : impl_getBits.f k s = some (le s 0 s.size) := by
  unfold impl_getBits.f
  exact getBits_l0 s hs s.size k 0 (by omega) (by omega)

/-! ### decoder -/
theorem extract_all_size (s : ByteArray) (i : Nat) : (s.extract i s.size).size = s.size - i := by rw [size_extract _ _ _ (Nat.le_refl _)]
theorem take_yes (r : ByteArray) (b : Bool) (n : Int) (hr : r.size ≤ 140737488351232) (h0 : 0 ≤ n) (h1 : n ≤ r.size) :
    impl_decoder_take.f r b n = some (r.extract 0 n.toNat, r.extract n.toNat r.size, b) := by
  unfold impl_decoder_take.f
  rw [cut_yes r 0 n hr h0 (by omega) (by omega)]
  simp only [obind, if_true]
  rw [if_pos h0, if_pos h1, Int.zero_add]
  rfl
theorem take_no (r : ByteArray) (b : Bool) (n : Int) (hr : r.size ≤ 140737488351232) (hn : -9223372036854775808 ≤ n ∧ n ≤ 9223372036854775807) (h : n < 0 ∨ r.size < n) :
    impl_decoder_take.f r b n = some ((⟨#[]⟩ : ByteArray), r, true) := by
  unfold impl_decoder_take.f
  rw [cut_no r 0 n hr hn (by omega)]
  simp only [obind]
  rw [if_neg (by simp)]
theorem number_yes (r : ByteArray) (b : Bool) (n : Int) (hr : r.size ≤ 140737488351232) (h0 : 0 ≤ n) (h8 : n ≤ 8) (h1 : n ≤ r.size) (k : Nat) (hk : 8 < k) :
    impl_decoder_number.f k r b n = some (wrap64 (le r 0 n.toNat), r.extract n.toNat r.size, b) := by
  unfold impl_decoder_number.f
  rw [take_yes r b n hr h0 h1]
  have hs : (r.extract 0 n.toNat).size = n.toNat := by rw [size_extract _ _ _ (by omega)]; omega
  simp only [obind]
  rw [getBits_eq _ (by omega) k hk, hs, le_extract r 0 n.toNat (by omega) n.toNat (by omega)]
  simp only [obind]
  rfl
theorem number_no (r : ByteArray) (b : Bool) (n : Int) (hr : r.size ≤ 140737488351232) (hn : -9223372036854775808 ≤ n ∧ n ≤ 9223372036854775807) (h : n < 0 ∨ r.size < n) (k : Nat) (hk : 8 < k) :
    impl_decoder_number.f k r b n = some (0, r, true) := by
  unfold impl_decoder_number.f
  rw [take_no r b n hr hn h]
  simp only [obind]
  rw [getBits_eq (⟨#[]⟩ : ByteArray) (Nat.zero_le _) k hk]
  simp only [obind]
  show some (wrap64 0, r, true) = _
  rw [w64 (by omega) (by omega)]
theorem byte_yes (r : ByteArray) (b : Bool) (hr : r.size ≤ 140737488351232) (h1 : 0 < r.size) (k : Nat) (hk : 8 < k) : impl_decoder_byte.f k r b = some (bt r 0, r.extract 1 r.size, b) := by
  unfold impl_decoder_byte.f
  rw [number_yes r b 1 hr (by omega) (by omega) (by omega) k hk]
  simp only [obind]
  obtain ⟨b0, b1⟩ := bt_range r 0
  have e : le r 0 (1 : Int).toNat = bt r 0 := by
    show le r 0 1 = _
    simp [le]
  rw [e, w64 (by omega) (by omega)]
  rfl
theorem byte_no (r : ByteArray) (b : Bool) (h1 : r.size = 0) (k : Nat) (hk : 8 < k) : impl_decoder_byte.f k r b = some (0, r, true) := by
  unfold impl_decoder_byte.f
  rw [number_no r b 1 (by omega) (by omega) (by omega) k hk]
  simp only [obind]

/-! ### extracts -/
theorem extract_tail (s : ByteArray) (i j : Nat) (h : i + j ≤ s.size) : (s.extract i s.size).extract j (s.extract i s.size).size = s.extract (i + j) s.size := by
  have h0 := extract_all_size s i
  have h1 := extract_all_size s (i + j)
  apply ba_ext
  · rw [extract_all_size, h0, h1]; omega
  · intro q hq
    rw [extract_all_size, h0] at hq
    rw [bt_extract _ j _ q (by omega) (by omega) (Nat.le_refl _), show ((j : Int) + q) = ((j + q : Nat) : Int) by omega, bt_extract s i s.size _ (by omega) (by omega) (Nat.le_refl _), bt_extract s (i + j) s.size q (by omega) (by omega) (Nat.le_refl _)]
    congr 1
    omega
theorem extract_head (s : ByteArray) (i j : Nat) (h : i + j ≤ s.size) : (s.extract i s.size).extract 0 j = s.extract i (i + j) := by
  have h0 := extract_all_size s i
  apply ba_ext
  · rw [size_extract _ _ _ (by omega), size_extract _ _ _ h]; omega
  · intro q hq
    rw [size_extract _ _ _ (by omega)] at hq
    rw [bt_extract _ 0 _ q (by omega) (by omega) (by omega), show (((0 : Nat) : Int) + q) = q by omega, bt_extract s i s.size _ (by omega) (by omega) (Nat.le_refl _), bt_extract s i (i + j) q (by omega) (by omega) h]
theorem extract_whole (s : ByteArray) : s.extract 0 s.size = s := by
  apply ba_ext
  · rw [extract_all_size]; rfl
  · intro q hq
    rw [extract_all_size] at hq
    rw [bt_extract s 0 s.size q (by omega) (by omega) (Nat.le_refl _)]
    congr 1
    omega
theorem bt_tail0 (s : ByteArray) (i : Nat) (h : i < s.size) : bt (s.extract i s.size) 0 = bt s i := by
  have := bt_extract s i s.size 0 (by omega) (by omega) (Nat.le_refl _)
  rw [this]
  congr 1
theorem extract_none (s : ByteArray) (i : Nat) (h : i ≤ s.size) : s.extract i i = (⟨#[]⟩ : ByteArray) := by
  apply ba_ext
  · rw [size_extract _ _ _ h, Nat.sub_self]; rfl
  · intro q hq
    rw [size_extract _ _ _ h] at hq
    omega

/-! ### specReader -/
theorem rbyte_yes (s : ByteArray) (i : Nat) (b : Bool) (hs : s.size ≤ 140737488351232) (h : i < s.size) : spec_l02Reader_byte.f s i b = some (bt s i, s, (i : Int) + 1, b) := by
  unfold spec_l02Reader_byte.f
  obtain ⟨b0, b1⟩ := bt_range s i
  rw [if_neg (by omega), w64 (x := (i : Int) + 1) (by omega) (by omega), show (i : Int) + 1 - 1 = i by omega, w64 (x := (i : Int)) (by omega) (by omega), if_pos (by omega), if_pos (by omega), w64 (x := bt s i) (by omega) (by omega)]
theorem rbyte_no (s : ByteArray) (i : Int) (b : Bool) (h : (s.size : Int) ≤ i) : spec_l02Reader_byte.f s i b = some (0, s, i, true) := by
  unfold spec_l02Reader_byte.f
  rw [if_pos (by omega)]
theorem rtake_yes (s : ByteArray) (i n : Nat) (b : Bool) (hs : s.size ≤ 140737488351232) (h : i + n ≤ s.size) : spec_l02Reader_take.f s i b n = some (s.extract i (i + n), s, (i : Int) + n, b) := by
  unfold spec_l02Reader_take.f
  rw [if_neg (by omega), w64 (x := (s.size : Int) - i) (by omega) (by omega), if_neg (by omega), w64 (x := (i : Int) + n) (by omega) (by omega), show (i : Int) + n - n = i by omega, w64 (x := (i : Int)) (by omega) (by omega), if_pos (by omega), if_pos (by omega), if_pos (by omega)]
  rw [show ((i : Int)).toNat = i by omega, show ((i : Int) + n).toNat = i + n by omega]
theorem rtake_no (s : ByteArray) (i : Nat) (n : Int) (b : Bool) (hs : s.size ≤ 140737488351232) (hi : i ≤ s.size) (h : n < 0 ∨ (s.size : Int) < i + n) : spec_l02Reader_take.f s i b n = some ((⟨#[]⟩ : ByteArray), s, (i : Int), true) := by
  unfold spec_l02Reader_take.f
  by_cases hn : n < 0
  · rw [if_pos hn]
  · rw [if_neg hn, w64 (x := (s.size : Int) - i) (by omega) (by omega), if_pos (by omega)]

/-! ### bothReader -/
/-- The reference's reader and the program's decoder go together. -/
theorem rd_byte (s : ByteArray) (i : Nat) (b : Bool) (hs : s.size ≤ 140737488351232) (hi : i ≤ s.size) : ∃ (v : Int) (i' : Nat) (b' : Bool), i' ≤ s.size ∧ 0 ≤ v ∧ v ≤ 255 ∧ (b = true → b' = true) ∧
    spec_l02Reader_byte.f s i b = some (v, s, (i' : Int), b') ∧ ∀ k : Nat, 8 < k → impl_decoder_byte.f k (s.extract i s.size) b = some (v, s.extract i' s.size, b') := by
  have hz := extract_all_size s i
  by_cases h : i < s.size
  · obtain ⟨b0, b1⟩ := bt_range s i
    refine ⟨bt s i, i + 1, b, by omega, b0, b1, fun h => h, ?_, fun k hk => ?_⟩
    · rw [rbyte_yes s i b hs h]; rfl
    · rw [byte_yes _ b (by omega) (by omega) k hk, bt_tail0 s i h, extract_tail s i 1 (by omega)]
  · refine ⟨0, i, true, hi, by omega, by omega, fun _ => rfl, ?_, fun k hk => ?_⟩
    · rw [rbyte_no s i b (by omega)]
    · rw [byte_no _ b (by omega) k hk]
theorem rd_take (s : ByteArray) (i : Nat) (b : Bool) (n : Int) (hs : s.size ≤ 140737488351232) (hi : i ≤ s.size) (hn : -9223372036854775808 ≤ n ∧ n ≤ 9223372036854775807) : ∃ (t : ByteArray) (i' : Nat) (b' : Bool), i' ≤ s.size ∧ t.size ≤ s.size ∧ (b = true → b' = true) ∧
    spec_l02Reader_take.f s i b n = some (t, s, (i' : Int), b') ∧ impl_decoder_take.f (s.extract i s.size) b n = some (t, s.extract i' s.size, b') := by
  have hz := extract_all_size s i
  by_cases h : 0 ≤ n ∧ i + n ≤ s.size
  · obtain ⟨j, rfl⟩ := Int.eq_ofNat_of_zero_le h.1
    refine ⟨s.extract i (i + j), i + j, b, by omega, by rw [size_extract _ _ _ (by omega)]; omega, fun h => h, ?_, ?_⟩
    · rw [rtake_yes s i j b hs (by omega)]; rfl
    · rw [take_yes _ b j (by omega) (by omega) (by omega), Int.toNat_natCast, extract_head s i j (by omega), extract_tail s i j (by omega)]
  · refine ⟨⟨#[]⟩, i, true, hi, Nat.zero_le _, fun _ => rfl, ?_, ?_⟩
    · rw [rtake_no s i n b hs hi (by omega)]
    · rw [take_no _ b n (by omega) hn (by omega)]

/-! ### l00In -/
theorem l00In_eq (a b c : Int) : spec_l00In.f a b c = some (decide (b ≤ a ∧ a ≤ c)) := by
  unfold spec_l00In.f
  by_cases h : b ≤ a
  · rw [if_pos h]; simp [h]
  · rw [if_neg h]; simp [h]

/-! ### headerModel -/
def okMsg (m : S91) : Bool := decide (1 ≤ m.f0 ∧ m.f0 ≤ 9) && decide (0 ≤ m.f1 ∧ m.f1 ≤ 255) && decide (m.f2.size ≤ 200)
def okMsgs : List S91 → Bool
  | [] => true
  | m :: l => okMsg m && okMsgs l
def okHeader (a b : Int) (l : List S91) : Bool := decide (1 ≤ a ∧ a ≤ 3) && decide (0 ≤ b ∧ b ≤ 1000) && decide (l.length ≤ 24) && okMsgs l
theorem rdMsg_at (a : List S91) (x : S91) (b : List S91) : rd_T91 (a ++ x :: b) a.length = x := by simp [rd_T91]

/-! ### specHeaderOk -/
theorem specHeaderOk_l0 (p q : Int) (d : Nat) : ∀ (k : Nat) (a b : List S91), b.length = d → d < k → a.length + d ≤ 100000 → spec_l14Ok.l0 k a.length p q (a ++ b) = some (okMsgs b) := by
  induction d with
  | zero =>
    intro k a b hb hk hl
    obtain ⟨k, rfl⟩ : ∃ m, k = m + 1 := ⟨k - 1, by omega⟩
    obtain rfl : b = [] := List.eq_nil_of_length_eq_zero hb
    simp only [spec_l14Ok.l0]
    rw [if_neg (by simp)]
    rfl
  | succ d ih =>
    intro k a b hb hk hl
    obtain ⟨k, rfl⟩ : ∃ m, k = m + 1 := ⟨k - 1, by omega⟩
    match b, hb with
    | x :: b, hb =>
    have hi := ih k (a ++ [x]) b (by simpa using hb) (by omega) (by simp; omega)
    rw [List.append_assoc, List.singleton_append, show ((a ++ [x]).length : Int) = (a.length : Int) + 1 by simp] at hi
    simp only [spec_l14Ok.l0]
    rw [if_pos (by simp; omega), if_pos (by omega), rdMsg_at, w64 (x := (a.length : Int) + 1) (by omega) (by omega), hi]
    simp only [l00In_eq, obind, decide_eq_true_eq, okMsgs, okMsg]
    by_cases h1 : 1 ≤ x.f0 ∧ x.f0 ≤ 9
    · rw [if_pos h1]
      by_cases h2 : 0 ≤ x.f1 ∧ x.f1 ≤ 255
      · rw [if_pos h2]
        by_cases h3 : (x.f2.size : Int) > 200
        · rw [if_pos h3, decide_eq_false (show ¬ x.f2.size ≤ 200 by omega)]; simp
        · rw [if_neg h3, decide_eq_true (show x.f2.size ≤ 200 by omega), decide_eq_true h1, decide_eq_true h2]; simp
      · rw [if_neg h2, decide_eq_false h2]; simp
    · rw [if_neg h1, decide_eq_false h1]; simp
theorem specHeaderOk_eq (p q : Int) (l : List S91) (hl : l.length ≤ 100000) (k : Nat) (hk : l.length + 2 < k) : spec_l14Ok.f k p q l = some (okHeader p q l) := by
  unfold spec_l14Ok.f okHeader
  obtain ⟨k, rfl⟩ : ∃ m, k = m + 1 := ⟨k - 1, by omega⟩
  have h0 := specHeaderOk_l0 p q l.length k [] l rfl (by omega) (by simpa using hl)
  rw [List.nil_append, show (([] : List S91).length : Int) = 0 from rfl] at h0
  simp only [l00In_eq, obind, decide_eq_true_eq, spec_l14Ok.j0, h0, if_true]
  by_cases h1 : 1 ≤ p ∧ p ≤ 3
  · rw [if_pos h1]
    by_cases h2 : 0 ≤ q ∧ q ≤ 1000
    · rw [if_pos h2]
      by_cases h3 : (l.length : Int) > 24
      · rw [if_pos h3, decide_eq_false (show ¬ l.length ≤ 24 by omega)]; simp
      · rw [if_neg h3, decide_eq_true (show l.length ≤ 24 by omega), decide_eq_true h1, decide_eq_true h2]; simp
    · rw [if_neg h2, decide_eq_false h2]; simp
  · rw [if_neg h1, decide_eq_false h1]; simp

/-! ### implValidHeader -/
theorem messageOk_eq (m : S91) : impl_messageOk.f m.f0 m.f1 m.f2 = some (okMsg m) := by
  unfold impl_messageOk.f okMsg
  simp only [within_eq, obind, decide_eq_true_eq]
  by_cases h1 : 1 ≤ m.f0 ∧ m.f0 ≤ 9
  · rw [if_pos h1]
    by_cases h2 : 0 ≤ m.f1 ∧ m.f1 ≤ 255
    · rw [if_pos h2, decide_eq_true h1, decide_eq_true h2]
      by_cases h3 : m.f2.size ≤ 200
      · rw [decide_eq_true h3, decide_eq_true (show (m.f2.size : Int) ≤ 200 by omega)]; rfl
      · rw [decide_eq_false h3, decide_eq_false (show ¬ (m.f2.size : Int) ≤ 200 by omega)]; rfl
    · rw [if_neg h2, decide_eq_false h2]; simp
  · rw [if_neg h1, decide_eq_false h1]; simp
theorem badMsgs_l0 (d : Nat) : ∀ (k : Nat) (a b : List S91), b.length = d → d < k → a.length + d ≤ 100000 →
    ∃ r, slices_IndexFunc_impl_ValidHeader_1.l0 k (a ++ b) ((a ++ b).length : Int) a.length = some r ∧ decide (r ≥ 0) = !okMsgs b := by
  induction d with
  | zero =>
    intro k a b hb hk hl
    obtain ⟨k, rfl⟩ : ∃ m, k = m + 1 := ⟨k - 1, by omega⟩
    obtain rfl : b = [] := List.eq_nil_of_length_eq_zero hb
    simp only [slices_IndexFunc_impl_ValidHeader_1.l0]
    rw [if_neg (by simp)]
    exact ⟨_, rfl, by simp [okMsgs]⟩
  | succ d ih =>
    intro k a b hb hk hl
    obtain ⟨k, rfl⟩ : ∃ m, k = m + 1 := ⟨k - 1, by omega⟩
    match b, hb with
    | x :: b, hb =>
    obtain ⟨r, hi, hr⟩ := ih k (a ++ [x]) b (by simpa using hb) (by omega) (by simp; omega)
    rw [List.append_assoc, List.singleton_append, show ((a ++ [x]).length : Int) = (a.length : Int) + 1 by simp] at hi
    simp only [slices_IndexFunc_impl_ValidHeader_1.l0]
    rw [if_pos (by simp; omega), if_pos (by omega), if_pos (by simp; omega), rdMsg_at, w64 (x := (a.length : Int) + 1) (by omega) (by omega)]
    unfold impl_ValidHeader_1.f
    rw [messageOk_eq x]
    simp only [obind, okMsgs]
    cases hz : okMsg x
    · rw [if_pos (by rfl)]
      exact ⟨_, rfl, by simp⟩
    · rw [if_neg (by simp)]
      exact ⟨r, hi, by rw [hr]; simp⟩
theorem implValidHeader_eq (p q : Int) (l : List S91) (hl : l.length ≤ 100000) (k : Nat) (hk : l.length < k) : impl_ValidHeader.f k p q l = some (okHeader p q l) := by
  unfold impl_ValidHeader.f okHeader
  obtain ⟨r, h0, hr⟩ := badMsgs_l0 l.length k [] l rfl hk (by simpa using hl)
  rw [List.nil_append, show (([] : List S91).length : Int) = 0 from rfl] at h0
  have hc : slices_ContainsFunc_impl_ValidHeader_1.f k l = some (!okMsgs l) := by
    unfold slices_ContainsFunc_impl_ValidHeader_1.f slices_IndexFunc_impl_ValidHeader_1.f
    rw [h0]
    simp only [obind]
    rw [hr]
  rw [hc]
  simp only [within_eq, obind, decide_eq_true_eq]
  by_cases h1 : 1 ≤ p ∧ p ≤ 3
  · rw [if_pos h1]
    by_cases h2 : 0 ≤ q ∧ q ≤ 1000
    · rw [if_pos h2]
      by_cases h3 : (l.length : Int) ≤ 24
      · rw [if_pos h3, decide_eq_true (show l.length ≤ 24 by omega), decide_eq_true h1, decide_eq_true h2]; simp
      · rw [if_neg h3, decide_eq_false (show ¬ l.length ≤ 24 by omega)]; simp
    · rw [if_neg h2, decide_eq_false h2]; simp
  · rw [if_neg h1, decide_eq_false h1]; simp

/-! ### eqMessage -/
theorem eqMessageS_self (l : List S91) (hl : l.length ≤ 1099511627776) (d : Nat) : ∀ (k i : Nat), i + d = l.length → d < k → laws_eqMessageS.l0 k l l i = some true := by
  induction d with
  | zero =>
    intro k i hi hk
    obtain ⟨k, rfl⟩ : ∃ m, k = m + 1 := ⟨k - 1, by omega⟩
    simp only [laws_eqMessageS.l0]
    rw [if_neg (by omega)]
  | succ d ih =>
    intro k i hi hk
    obtain ⟨k, rfl⟩ : ∃ m, k = m + 1 := ⟨k - 1, by omega⟩
    simp only [laws_eqMessageS.l0]
    rw [if_pos (by omega), if_pos (by omega), if_pos (by omega), w64 (x := (i : Int) + 1) (by omega) (by omega)]
    unfold laws_eqMessage.f
    simp only [if_true, obind]
    exact ih k (i + 1) (by omega) (by omega)
theorem eqMessageS_refl (l : List S91) (hl : l.length ≤ 1099511627776) (k : Nat) (hk : l.length < k) : laws_eqMessageS.f k l l = some true := by
  unfold laws_eqMessageS.f
  rw [if_pos rfl]
  exact eqMessageS_self l hl l.length k 0 (by omega) hk

/-! ### markText -/
theorem markText_l0 (d : Nat) : ∀ (k : Nat) (n : Int) (s : ByteArray), 0 ≤ n → n < 10 ^ d → n ≤ 9223372036854775807 → d < k → s.size + d ≤ 1000 → ∃ t, laws_markText.l0 k n s = some t := by
  induction d with
  | zero =>
    intro k n s h0 h1 h2 hk hs
    obtain ⟨k, rfl⟩ : ∃ m, k = m + 1 := ⟨k - 1, by omega⟩
    simp only [laws_markText.l0]
    rw [if_neg (by omega), if_pos (by omega)]
    exact ⟨_, rfl⟩
  | succ d ih =>
    intro k n s h0 h1 h2 hk hs
    obtain ⟨k, rfl⟩ : ∃ m, k = m + 1 := ⟨k - 1, by omega⟩
    simp only [laws_markText.l0, obind]
    by_cases hn : n > 0
    · rw [if_pos hn, size_ofNums]
      rw [if_pos (by simp; omega), Int.tdiv_eq_ediv_of_nonneg h0, w64 (x := n / 10) (by omega) (by omega)]
      refine ih k (n / 10) _ (by omega) ?_ (by omega) (by omega) ?_
      · rw [Int.pow_succ] at h1
        omega
      · rw [ByteArray.size_append, size_ofNums]; simp; omega
    · rw [if_neg hn, if_pos (by omega)]
      exact ⟨_, rfl⟩
/-- The text of a number's mark. -/
def mtx (n : Int) : ByteArray := (laws_markText.f 40 n).getD ⟨#[]⟩
theorem markText_eq (n : Int) (h : n ≤ 9223372036854775807) (k : Nat) (hk : 40 ≤ k) : laws_markText.f k n = some (mtx n) := by
  have h1 : ∃ t, laws_markText.f 40 n = some t := by
    unfold laws_markText.f
    by_cases hn : n ≤ 0
    · rw [if_pos hn]; exact ⟨_, rfl⟩
    · rw [if_neg hn]
      refine markText_l0 20 40 n _ (by omega) ?_ h (by omega) (by decide)
      have : (10 : Int) ^ 20 = 100000000000000000000 := by decide +kernel
      omega
  obtain ⟨t, ht⟩ := h1
  have he : mtx n = t := by unfold mtx; rw [ht]; rfl
  rw [he]
  exact at_rounds (g := fun k => laws_markText.f k n) (fun k => laws_markText.mono n k) hk ht

/-! ### markMessage -/
def messagesFrom : Int → Nat → List S91
  | _, 0 => []
  | m, d + 1 => (⟨m, m + 1, mtx (m + 1 + 1)⟩ : S91) :: messagesFrom (m + 1 + 1 + 1) d
theorem messagesFrom_length : ∀ (m : Int) (d : Nat), (messagesFrom m d).length = d
  | _, 0 => rfl
  | m, d + 1 => by rw [messagesFrom, List.length_cons, messagesFrom_length]
theorem markMessageS_l0 (d : Nat) : ∀ (k : Nat) (a b : List S91) (m : Int), b.length = d → d + 42 < k → a.length + d ≤ 1099511627776 → 0 ≤ m → m + 3 * d ≤ 9223372036854775000 →
    laws_markMessageS.l0 k (a ++ b) m a.length = some (m + 3 * d, a ++ messagesFrom m d) := by
  induction d with
  | zero =>
    intro k a b m hb hk hl h0 h1
    obtain ⟨k, rfl⟩ : ∃ m, k = m + 1 := ⟨k - 1, by omega⟩
    obtain rfl : b = [] := List.eq_nil_of_length_eq_zero hb
    simp only [laws_markMessageS.l0]
    rw [if_neg (by simp)]
    simp [messagesFrom]
  | succ d ih =>
    intro k a b m hb hk hl h0 h1
    obtain ⟨k, rfl⟩ : ∃ m, k = m + 1 := ⟨k - 1, by omega⟩
    match b, hb with
    | x :: b, hb =>
    have hset : ∀ (y z : S91), (a ++ y :: b).set (a.length : Int).toNat z = a ++ z :: b := fun y z => by simp
    have hrd : ∀ (y : S91), rd_T91 (a ++ y :: b) a.length = y := fun y => by simp [rd_T91]
    have w1 : wrap64 (m + 1) = m + 1 := w64 (by omega) (by omega)
    have w2 : wrap64 (m + 1 + 1) = m + 1 + 1 := w64 (by omega) (by omega)
    have w3 : wrap64 (m + 1 + 1 + 1) = m + 1 + 1 + 1 := w64 (by omega) (by omega)
    have t2 : laws_markText.f k (m + 1 + 1) = some (mtx (m + 1 + 1)) := markText_eq _ (by omega) k (by omega)
    have wl : wrap64 ((a.length : Int) + 1) = (a.length : Int) + 1 := w64 (by omega) (by omega)
    have c1 : (a.length : Int) < ((a ++ x :: b).length : Int) := by simp; omega
    have c2 : 0 ≤ (a.length : Int) := by omega
    simp only [laws_markMessageS.l0, obind, if_pos c1, if_pos c2, hset, hrd, w1, w2, w3, wl, t2]
    have := ih k (a ++ [(⟨m, m + 1, mtx (m + 1 + 1)⟩ : S91)]) b (m + 1 + 1 + 1) (by simpa using hb) (by omega) (by simp; omega) (by omega) (by omega)
    simp only [List.append_assoc, List.singleton_append, List.length_append, List.length_singleton, Int.natCast_add, Int.cast_ofNat_Int] at this
    rw [this, messagesFrom]
    congr 2
    omega
theorem heldMessageS_l0 (d : Nat) : ∀ (k : Nat) (a : List S91) (m : Int), d + 42 < k → a.length + d ≤ 1099511627776 → 0 ≤ m → m + 3 * d ≤ 9223372036854775000 →
    laws_heldMessageS.l0 k (a ++ messagesFrom m d) m a.length = some (m + 3 * d) := by
  induction d with
  | zero =>
    intro k a m hk hl h0 h1
    obtain ⟨k, rfl⟩ : ∃ m, k = m + 1 := ⟨k - 1, by omega⟩
    simp only [laws_heldMessageS.l0]
    rw [if_neg (by simp [messagesFrom])]
    simp
  | succ d ih =>
    intro k a m hk hl h0 h1
    obtain ⟨k, rfl⟩ : ∃ m, k = m + 1 := ⟨k - 1, by omega⟩
    rw [messagesFrom]
    have hrd : rd_T91 (a ++ (⟨m, m + 1, mtx (m + 1 + 1)⟩ : S91) :: messagesFrom (m + 1 + 1 + 1) d) a.length = (⟨m, m + 1, mtx (m + 1 + 1)⟩ : S91) := by simp [rd_T91]
    have w1 : wrap64 (m + 1) = m + 1 := w64 (by omega) (by omega)
    have w2 : wrap64 (m + 1 + 1) = m + 1 + 1 := w64 (by omega) (by omega)
    have w3 : wrap64 (m + 1 + 1 + 1) = m + 1 + 1 + 1 := w64 (by omega) (by omega)
    have t2 : laws_markText.f k (m + 1 + 1) = some (mtx (m + 1 + 1)) := markText_eq _ (by omega) k (by omega)
    have wl : wrap64 ((a.length : Int) + 1) = (a.length : Int) + 1 := w64 (by omega) (by omega)
    have c1 : (a.length : Int) < ((a ++ (⟨m, m + 1, mtx (m + 1 + 1)⟩ : S91) :: messagesFrom (m + 1 + 1 + 1) d).length : Int) := by simp; omega
    have c2 : 0 ≤ (a.length : Int) := by omega
    simp only [laws_heldMessageS.l0, obind, if_pos c1, if_pos c2, hrd, w1, w2, w3, wl, t2, if_true]
    have := ih k (a ++ [(⟨m, m + 1, mtx (m + 1 + 1)⟩ : S91)]) (m + 1 + 1 + 1) (by omega) (by simp; omega) (by omega) (by omega)
    simp only [List.append_assoc, List.singleton_append, List.length_append, List.length_singleton, Int.natCast_add, Int.cast_ofNat_Int] at this
    rw [this]
    congr 1
    omega
theorem markMessageS_f (l : List S91) (hl : l.length ≤ 1099511627776) (k : Nat) (hk : l.length + 42 < k) : laws_markMessageS.f k l 1 = some (1 + 3 * (l.length : Int), messagesFrom 1 l.length) := by
  unfold laws_markMessageS.f
  exact markMessageS_l0 l.length k [] l 1 rfl hk (by simpa using hl) (by omega) (by omega)
theorem heldMessageS_f (n : Nat) (hl : n ≤ 1099511627776) (k : Nat) (hk : n + 42 < k) : laws_heldMessageS.f k (messagesFrom 1 n) 1 = some (1 + 3 * (n : Int)) := by
  unfold laws_heldMessageS.f
  exact heldMessageS_l0 n k [] 1 hk (by simpa using hl) (by omega) (by omega)

def noHeader : Int × Int × (List S91) × Bool := (0, 0, [], false)
theorem spec_bad (s r : ByteArray) (n i : Int) (p q : Int) (acc : List S91) (k : Nat) (hk : 2 ≤ k) : spec_DecodeHeader.l0 k s n r i true p q acc = some noHeader := by
  obtain ⟨k, rfl⟩ : ∃ m, k = m + 2 := ⟨k - 2, by omega⟩
  simp [spec_DecodeHeader.l0, spec_DecodeHeader.j1, noHeader]
theorem impl_bad (r : ByteArray) (n : Int) (p q : Int) (acc : List S91) (k : Nat) (hk : 2 ≤ k) : impl_DecodeHeader.l0 k n r true p q acc = some noHeader := by
  obtain ⟨k, rfl⟩ : ∃ m, k = m + 2 := ⟨k - 2, by omega⟩
  simp [impl_DecodeHeader.l0, impl_DecodeHeader.j1, noHeader]
theorem header_both (s : ByteArray) (hs : s.size ≤ 1048576) (p q : Int) (n : Nat) : ∀ (k i : Nat) (b : Bool) (acc : List S91), i ≤ s.size → acc.length + n ≤ 1000 → 2 * n + 2000 ≤ k →
    ∃ r, spec_DecodeHeader.l0 k s n s i b p q acc = some r ∧ impl_DecodeHeader.l0 k n (s.extract i s.size) b p q acc = some r ∧ r.2.2.1.length ≤ 1000 := by
  induction n with
  | zero =>
    intro k i b acc hi hl hk
    cases b
    · obtain ⟨k, rfl⟩ : ∃ m, k = m + 2 := ⟨k - 2, by omega⟩
      have hz := extract_all_size s i
      have hz0 : ¬ (((0 : Nat) : Int) > 0) := by omega
      simp only [spec_DecodeHeader.l0, spec_DecodeHeader.j1, impl_DecodeHeader.l0, impl_DecodeHeader.j1, if_neg hz0, Bool.false_eq_true, if_false]
      rw [specHeaderOk_eq p q acc (by omega) k (by omega), implValidHeader_eq p q acc (by omega) k (by omega)]
      simp only [obind]
      by_cases he : (i : Int) = s.size
      · rw [if_pos he, if_pos ((toList_nil _).2 (by omega))]
        cases okHeader p q acc
        · exact ⟨_, rfl, rfl, by simp⟩
        · exact ⟨_, rfl, rfl, by simp; omega⟩
      · rw [if_neg he, if_neg (fun h => he (by have := (toList_nil _).1 h; omega))]
        exact ⟨_, rfl, rfl, by simp⟩
    · rw [spec_bad _ _ _ _ _ _ _ _ (by omega), impl_bad _ _ _ _ _ _ (by omega)]
      exact ⟨_, rfl, rfl, by simp [noHeader]⟩
  | succ n ih =>
    intro k i b acc hi hl hk
    cases b
    · obtain ⟨k, rfl⟩ : ∃ m, k = m + 2 := ⟨k - 2, by omega⟩
      have e1 : wrap64 (((n + 1 : Nat) : Int) - 1) = n := by rw [w64] <;> omega
      have hp : ((n + 1 : Nat) : Int) > 0 := by omega
      obtain ⟨v1, i1, b1, hi1, _, _, _, s1, d1⟩ := rd_byte s i false (by omega) hi
      obtain ⟨v2, i2, b2, hi2, _, _, _, s2, d2⟩ := rd_byte s i1 b1 (by omega) hi1
      obtain ⟨v3, i3, b3, hi3, l3, u3, _, s3, d3⟩ := rd_byte s i2 b2 (by omega) hi2
      obtain ⟨t, i4, b4, hi4, _, _, s4, d4⟩ := rd_take s i3 b3 v3 (by omega) hi3 (by omega)
      simp only [spec_DecodeHeader.l0, spec_DecodeHeader.j1, impl_DecodeHeader.l0, impl_DecodeHeader.j1, if_pos hp, Bool.not_false, if_true, e1, s1, s2, s3, s4, d1 k (by omega), d2 k (by omega), d3 k (by omega), d4, obind]
      rw [if_pos (by omega), if_pos (by omega)]
      exact ih k i4 b4 (acc ++ [⟨v1, v2, t⟩]) hi4 (by simp; omega) (by omega)
    · rw [spec_bad _ _ _ _ _ _ _ _ (by omega), impl_bad _ _ _ _ _ _ (by omega)]
      exact ⟨_, rfl, rfl, by simp [noHeader]⟩
theorem header_any (s : ByteArray) (hs : s.size ≤ 1048576) (k : Nat) (hk : 4000 ≤ k) : ∃ r, spec_DecodeHeader.f k s = some r ∧ impl_DecodeHeader.f k s = some r ∧ r.2.2.1.length ≤ 1000 := by
  unfold spec_DecodeHeader.f impl_DecodeHeader.f
  obtain ⟨v1, i1, b1, hi1, _, _, m1, s1, d1⟩ := rd_byte s 0 false (by omega) (by omega)
  rw [extract_whole, show ((0 : Nat) : Int) = 0 from rfl] at *
  obtain ⟨v2, i2, b2, hi2, l2, u2, m2, s2, d2⟩ := rd_byte s i1 b1 (by omega) hi1
  obtain ⟨v3, i3, b3, hi3, l3, u3, m3, s3, d3⟩ := rd_byte s i2 b2 (by omega) hi2
  obtain ⟨v4, i4, b4, hi4, l4, u4, m4, s4, d4⟩ := rd_byte s i3 b3 (by omega) hi3
  simp only [s1, s2, s3, s4, d1 k (by omega), obind]
  have hz1 := extract_all_size s i1
  by_cases h2 : i1 + 2 ≤ s.size
  · -- the two bytes are there
    obtain ⟨p0, p1⟩ := bt_range s i1
    obtain ⟨q0, q1⟩ := bt_range s (i1 + 1)
    have e2 := rbyte_yes s i1 b1 (by omega) (by omega)
    rw [s2] at e2
    simp only [Option.some.injEq, Prod.mk.injEq] at e2
    obtain ⟨rfl, _, hi2', rfl⟩ := e2
    have hi2'' : i2 = i1 + 1 := by omega
    subst hi2''
    have e3 := rbyte_yes s (i1 + 1) b2 (by omega) (by omega)
    rw [s3] at e3
    simp only [Option.some.injEq, Prod.mk.injEq] at e3
    obtain ⟨rfl, _, hi3', rfl⟩ := e3
    have hi3'' : i3 = i1 + 2 := by omega
    subst hi3''
    have hn : impl_decoder_number.f k (s.extract i1 s.size) b3 2 = some (wrap64 (bt s i1 + wrap64 (256 * bt s ((i1 + 1 : Nat) : Int))), s.extract (i1 + 2) s.size, b3) := by
      rw [number_yes _ b3 2 (by omega) (by omega) (by omega) (by omega) k (by omega)]
      have e : (2 : Int).toNat = 2 := rfl
      rw [e, extract_tail s i1 2 h2]
      have hle : le (s.extract i1 s.size) 0 2 = bt s i1 + 256 * bt s ((i1 + 1 : Nat) : Int) := by
        have := le_extract s i1 s.size (Nat.le_refl _) 2 h2
        rw [this]
        simp [le]
        omega
      rw [hle, w64 (x := 256 * bt s ((i1 + 1 : Nat) : Int)) (by omega) (by omega)]
    rw [hn]
    simp only [d4 k (by omega), obind]
    obtain ⟨n, rfl⟩ := Int.eq_ofNat_of_zero_le l4
    exact header_both s hs _ _ n k i4 b4 [] hi4 (by simp; omega) (by omega)
  · -- they are not: all that follows is void
    have hb3 : b3 = true := by
      by_cases h1 : i1 < s.size
      · have e2 := rbyte_yes s i1 b1 (by omega) h1
        rw [s2] at e2
        simp only [Option.some.injEq, Prod.mk.injEq] at e2
        obtain ⟨_, _, hi2', _⟩ := e2
        have e3 := rbyte_no s i2 b2 (by omega)
        rw [s3] at e3
        simp only [Option.some.injEq, Prod.mk.injEq] at e3
        exact e3.2.2.2
      · have e2 := rbyte_no s i1 b1 (by omega)
        rw [s2] at e2
        simp only [Option.some.injEq, Prod.mk.injEq] at e2
        exact m3 e2.2.2.2
    have hb4 := m4 hb3
    subst hb4
    rw [number_no _ b1 2 (by omega) (by omega) (by omega) k (by omega)]
    simp only [obind]
    obtain ⟨v5, i5, b5, hi5, _, _, m5, _, d5⟩ := rd_byte s i1 true (by omega) hi1
    have hb5 := m5 rfl
    subst hb5
    rw [d5 k (by omega)]
    simp only [obind]
    rw [spec_bad _ _ _ _ _ _ _ _ (by omega), impl_bad _ _ _ _ _ _ (by omega)]
    exact ⟨_, rfl, rfl, by simp [noHeader]⟩
theorem FnExactDecodeHeader : laws_FnExactDecodeHeader.Pure := by
  intro s _
  refine ⟨5000, ?_⟩
  unfold laws_FnExactDecodeHeader.f
  by_cases hs : (s.size : Int) > 1048576
  · rw [if_pos hs]
  · rw [if_neg hs]
    obtain ⟨⟨p, q, l, ok⟩, h1, h2, h3⟩ := header_any s (by omega) 5000 (by omega)
    obtain ⟨⟨p', q', l', ok'⟩, h1', h2', _⟩ := header_any s (by omega) 4999 (by omega)
    have hm := at_rounds (g := fun k => impl_DecodeHeader.f k s) (fun k => impl_DecodeHeader.mono s k) (show 4999 ≤ 5000 by omega) h2'
    obtain ⟨rfl, rfl, rfl, rfl⟩ : p' = p ∧ q' = q ∧ l' = l ∧ ok' = ok := by
      have := hm.symm.trans h2
      simpa using this
    simp only at h3
    have hneg : ¬ (1 + 3 * (l'.length : Int) < 0) := by omega
    have heq : ∀ k : Nat, 4990 ≤ k → laws_eqHeader.f k p' q' l' p' q' l' = some true := fun k hk => by
      unfold laws_eqHeader.f
      rw [eqMessageS_refl l' (by omega) k (by omega)]
      simp only [obind, if_true]
    have hheld : ∀ k : Nat, 4990 ≤ k → laws_heldHeader.f k p' q' (messagesFrom 1 l'.length) 1 = some (1 + 3 * (l'.length : Int)) := fun k hk => by
      unfold laws_heldHeader.f
      rw [heldMessageS_f l'.length (by omega) k (by omega)]
      simp only [obind, if_neg hneg]
    have hmark : ∀ k : Nat, 4990 ≤ k → laws_markHeader.f k p' q' l' 1 = some (1 + 3 * (l'.length : Int), messagesFrom 1 l'.length) := fun k hk => by
      unfold laws_markHeader.f
      rw [markMessageS_f l' (by omega) k (by omega)]
      simp only [obind]
    have j1 : laws_FnExactDecodeHeader.j1 4999 (1 + 3 * (l'.length : Int)) false p' q' (messagesFrom 1 l'.length) = some true := by
      simp only [laws_FnExactDecodeHeader.j1, Bool.false_eq_true, if_false, hheld 4998 (by omega), obind, if_neg hneg, if_true]
    have j0 : laws_FnExactDecodeHeader.j0 5000 s ok' false p' q' l' p' q' l' = some true := by
      simp only [laws_FnExactDecodeHeader.j0, Bool.false_eq_true, if_false, hmark 4999 (by omega), hheld 4999 (by omega), h2', heq 4999 (by omega), obind, if_neg hneg, if_true, bne_self_eq_false]
      exact j1
    simp only [h1, h2, obind, heq 5000 (by omega), if_true, bne_self_eq_false]
    exact j0

end Go.Proofs.Ytlcbbiiohhplfaa.Pure
