/- DecodeHeap of the program answers as the reference's, for all arguments. -/
import Derived.Test.YtlcbbiiohhplfaaKit
import Derived.Test.YtlcbbiiohhplfaaMFnExactDecodeHeapx6
namespace Go.Proofs.Ytlcbbiiohhplfaa.Pure
open Go.RowKit Go.Proofs.Ytlcbbiiohhplfaa.PFnExactDecodeHeap Go.Proofs.YtlcbbiiohhplfaaW.PrintWords Go.Proofs.YtlcbbiiohhplfaaW.PrintLast Go.Proofs.Ytlcbbiiohhplfaa.Kit

/-! ### within -/
theorem within_eq (a b c : Int) : impl_within.f a b c = some (decide (b ≤ a ∧ a ≤ c)) := by
  unfold impl_within.f
  by_cases h : b ≤ a
  · rw [if_pos h]; simp [h]
  · rw [if_neg h]; simp [h]

/-! ### cut -/
theorem cut_yes (s : ByteArray) (a n : Int) (hs : s.size ≤ 140737488351232) (h0 : 0 ≤ n) (h1 : 0 ≤ a) (h2 : a + n ≤ s.size) :
    impl_cut.f s a n = some (s.extract a.toNat (a + n).toNat, true) := by
  unfold impl_cut.f
  rw [if_neg (by omega), w64 (by omega) (by omega), within_eq, w64 (by omega) (by omega)]
  simp only [obind]
  rw [if_pos (by simp; omega), if_pos h1, if_pos (by omega), if_pos h2]
theorem cut_no (s : ByteArray) (a n : Int) (hs : s.size ≤ 140737488351232) (hn : -9223372036854775808 ≤ n ∧ n ≤ 9223372036854775807)
    (h : n < 0 ∨ a < 0 ∨ s.size < a + n) : impl_cut.f s a n = some ((⟨#[]⟩ : ByteArray), false) := by
  unfold impl_cut.f
  by_cases hn0 : n < 0
  · rw [if_pos hn0]
  · rw [if_neg hn0, w64 (by omega) (by omega), within_eq]
    simp only [obind]
    rw [if_neg (by simp; omega)]

/-! ### getBits -/
theorem getBits_l0 (s : ByteArray) (hs : s.size ≤ 8) (d : Nat) : ∀ (k i : Nat), i + d = s.size → d < k →
    impl_getBits.l0 k s (le s 0 i) s.size i = some (le s 0 s.size) := by
  induction d with
  | zero =>
    intro k i hi hk
    obtain ⟨k, rfl⟩ : ∃ m, k = m + 1 := ⟨k - 1, by omega⟩
    simp only [impl_getBits.l0]
    rw [if_neg (by omega), show i = s.size by omega]
  | succ d ih =>
    intro k i hi hk
    obtain ⟨k, rfl⟩ : ∃ m, k = m + 1 := ⟨k - 1, by omega⟩
    simp only [impl_getBits.l0]
    rw [if_pos (by omega), if_pos (by omega), if_pos (by omega), w64 (x := 8 * (i : Int)) (by omega) (by omega), if_pos (by omega), w64 (x := (i : Int) + 1) (by omega) (by omega)]
    obtain ⟨b0, b1⟩ := bt_range s i
    obtain ⟨l0, l1⟩ := le_bd s 0 i
    rw [wrap_u64, Int.emod_eq_of_lt b0 (by omega)]
    rw [or_shl_byte (le s 0 i) (bt s i) i (by omega) l0 l1 b0 b1]
    have := ih k (i + 1) (by omega) (by omega)
    rw [← this]
    simp [le]
theorem getBits_eq (s : ByteArray) (hs : s.size ≤ 8) (k : Nat) (hk : 8 < k) : impl_getBits.f k s = some (le s 0 s.size) := by
  unfold impl_getBits.f
  exact getBits_l0 s hs s.size k 0 (by omega) (by omega)

/-! ### decoder -/
theorem extract_all_size (s : ByteArray) (i : Nat) : (s.extract i s.size).size = s.size - i := by rw [size_extract _ _ _ (Nat.le_refl _)]
theorem take_yes (r : ByteArray) (b : Bool) (n : Int) (hr : r.size ≤ 140737488351232) (h0 : 0 ≤ n) (h1 : n ≤ r.size) :
    impl_decoder_take.f r b n = some (r.extract 0 n.toNat, r.extract n.toNat r.size, b) := by
  unfold impl_decoder_take.f
  rw [cut_yes r 0 n hr h0 (by omega) (by omega)]
  simp only [obind, if_true]
  rw [if_pos h0, if_pos h1, Int.zero_add]
  rfl
theorem take_no (r : ByteArray) (b : Bool) (n : Int) (hr : r.size ≤ 140737488351232) (hn : -9223372036854775808 ≤ n ∧ n ≤ 9223372036854775807) (h : n < 0 ∨ r.size < n) :
    impl_decoder_take.f r b n = some ((⟨#[]⟩ : ByteArray), r, true) := by
  unfold impl_decoder_take.f
  rw [cut_no r 0 n hr hn (by omega)]
  simp only [obind]
  rw [if_neg (by simp)]
theorem number_yes (r : ByteArray) (b : Bool) (n : Int) (hr : r.size ≤ 140737488351232) (h0 : 0 ≤ n) (h8 : n ≤ 8) (h1 : n ≤ r.size) (k : Nat) (hk : 8 < k) :
    impl_decoder_number.f k r b n = some (wrap64 (le r 0 n.toNat), r.extract n.toNat r.size, b) := by
  unfold impl_decoder_number.f
  rw [take_yes r b n hr h0 h1]
  have hs : (r.extract 0 n.toNat).size = n.toNat := by rw [size_extract _ _ _ (by omega)]; omega
  simp only [obind]
  rw [getBits_eq _ (by omega) k hk, hs, le_extract r 0 n.toNat (by omega) n.toNat (by omega)]
  simp only [obind]
  rfl
theorem number_no (r : ByteArray) (b : Bool) (n : Int) (hr : r.size ≤ 140737488351232) (hn : -9223372036854775808 ≤ n ∧ n ≤ 9223372036854775807) (h : n < 0 ∨ r.size < n) (k : Nat) (hk : 8 < k) :
    impl_decoder_number.f k r b n = some (0, r, true) := by
  unfold impl_decoder_number.f
  rw [take_no r b n hr hn h]
  simp only [obind]
  rw [getBits_eq (⟨#[]⟩ : ByteArray) (Nat.zero_le _) k hk]
  simp only [obind]
  show some (wrap64 0, r, true) = _
  rw [w64 (by omega) (by omega)]
theorem byte_yes (r : ByteArray) (b : Bool) (hr : r.size ≤ 140737488351232) (h1 : 0 < r.size) (k : Nat) (hk : 8 < k) : impl_decoder_byte.f k r b = some (bt r 0, r.extract 1 r.size, b) := by
  unfold impl_decoder_byte.f
  rw [number_yes r b 1 hr (by omega) (by omega) (by omega) k hk]
  simp only [obind]
  obtain ⟨b0, b1⟩ := bt_range r 0
  have e : le r 0 (1 : Int).toNat = bt r 0 := by
    show le r 0 1 = _
    simp [le]
  rw [e, w64 (by omega) (by omega)]
  rfl
theorem byte_no (r : ByteArray) (b : Bool) (h1 : r.size = 0) (k : Nat) (hk : 8 < k) : impl_decoder_byte.f k r b = some (0, r, true) := by
  unfold impl_decoder_byte.f
  rw [number_no r b 1 (by omega) (by omega) (by omega) k hk]
  simp only [obind]

/-! ### extracts -/
theorem extract_tail (s : ByteArray) (i j : Nat) (h : i + j ≤ s.size) : (s.extract i s.size).extract j (s.extract i s.size).size = s.extract (i + j) s.size := by
  have h0 := extract_all_size s i
  have h1 := extract_all_size s (i + j)
  apply ba_ext
  · rw [extract_all_size, h0, h1]; omega
  · intro q hq
    rw [extract_all_size, h0] at hq
    rw [bt_extract _ j _ q (by omega) (by omega) (Nat.le_refl _), show ((j : Int) + q) = ((j + q : Nat) : Int) by omega, bt_extract s i s.size _ (by omega) (by omega) (Nat.le_refl _), bt_extract s (i + j) s.size q (by omega) (by omega) (Nat.le_refl _)]
    congr 1
    omega
theorem extract_head (s : ByteArray) (i j : Nat) (h : i + j ≤ s.size) : (s.extract i s.size).extract 0 j = s.extract i (i + j) := by
  have h0 := extract_all_size s i
  apply ba_ext
  · rw [size_extract _ _ _ (by omega), size_extract _ _ _ h]; omega
  · intro q hq
    rw [size_extract _ _ _ (by omega)] at hq
    rw [bt_extract _ 0 _ q (by omega) (by omega) (by omega), show (((0 : Nat) : Int) + q) = q by omega, bt_extract s i s.size _ (by omega) (by omega) (Nat.le_refl _), bt_extract s i (i + j) q (by omega) (by omega) h]
theorem extract_whole (s : ByteArray) : s.extract 0 s.size = s := by
  apply ba_ext
  · rw [extract_all_size]; rfl
  · intro q hq
    rw [extract_all_size] at hq
    rw [bt_extract s 0 s.size q (by omega) (by omega) (Nat.le_refl _)]
    congr 1
    omega
theorem bt_tail0 (s : ByteArray) (i : Nat) (h : i < s.size) : bt (s.extract i s.size) 0 = bt s i := by
  have := bt_extract s i s.size 0 (by omega) (by omega) (Nat.le_refl _)
  rw [this]
  congr 1
theorem extract_none (s : ByteArray) (i : Nat) (h : i ≤ s.size) : s.extract i i = (⟨#[]⟩ : ByteArray) := by
  apply ba_ext
  · rw [size_extract _ _ _ h, Nat.sub_self]; rfl
  · intro q hq
    rw [size_extract _ _ _ h] at hq
    omega

/-! ### decoderName -/
/-- A name that is read: its length, its bytes. -/
theorem name_ok (s : ByteArray) (i : Nat) (b : Bool) (hs : s.size ≤ 140737488351232) (h : i < s.size) (h2 : i + 1 + (bt s i).toNat ≤ s.size) (k : Nat) (hk : 8 < k) :
    impl_decoder_name.f k (s.extract i s.size) b = some (s.extract (i + 1) (i + 1 + (bt s i).toNat), s.extract (i + 1 + (bt s i).toNat) s.size, b) := by
  have h0 := extract_all_size s i
  have h1 := extract_all_size s (i + 1)
  obtain ⟨b0, b1⟩ := bt_range s i
  unfold impl_decoder_name.f
  rw [byte_yes _ b (by omega) (by omega) k hk, bt_tail0 s i h, extract_tail s i 1 (by omega)]
  simp only [obind]
  rw [take_yes _ b _ (by omega) b0 (by omega), extract_head s (i + 1) _ h2, extract_tail s (i + 1) _ h2]
  simp only [obind]
theorem name_short (s : ByteArray) (i : Nat) (b : Bool) (hs : s.size ≤ 140737488351232) (h : i < s.size) (h2 : s.size < i + 1 + (bt s i).toNat) (k : Nat) (hk : 8 < k) :
    impl_decoder_name.f k (s.extract i s.size) b = some ((⟨#[]⟩ : ByteArray), s.extract (i + 1) s.size, true) := by
  have h0 := extract_all_size s i
  have h1 := extract_all_size s (i + 1)
  obtain ⟨b0, b1⟩ := bt_range s i
  unfold impl_decoder_name.f
  rw [byte_yes _ b (by omega) (by omega) k hk, bt_tail0 s i h, extract_tail s i 1 (by omega)]
  simp only [obind]
  rw [take_no _ b _ (by omega) (by omega) (by omega)]
  simp only [obind]
theorem name_none (s : ByteArray) (b : Bool) (hs : s.size = 0) (k : Nat) (hk : 8 < k) : ∃ r, impl_decoder_name.f k s b = some ((⟨#[]⟩ : ByteArray), r, true) ∧ r.size = 0 := by
  unfold impl_decoder_name.f
  rw [byte_no s b hs k hk]
  simp only [obind]
  rw [take_yes s true 0 (by omega) (by omega) (by omega)]
  simp only [obind]
  refine ⟨_, by rw [show (0 : Int).toNat = 0 from rfl, extract_none s 0 (by omega)], ?_⟩
  rw [size_extract _ _ _ (Nat.le_refl _)]
  omega

/-! ### specReader -/
theorem rbyte_yes (s : ByteArray) (i : Nat) (b : Bool) (hs : s.size ≤ 140737488351232) (h : i < s.size) : spec_l02Reader_byte.f s i b = some (bt s i, s, (i : Int) + 1, b) := by
  unfold spec_l02Reader_byte.f
  obtain ⟨b0, b1⟩ := bt_range s i
  rw [if_neg (by omega), w64 (x := (i : Int) + 1) (by omega) (by omega), show (i : Int) + 1 - 1 = i by omega, w64 (x := (i : Int)) (by omega) (by omega), if_pos (by omega), if_pos (by omega), w64 (x := bt s i) (by omega) (by omega)]
theorem rbyte_no (s : ByteArray) (i : Int) (b : Bool) (h : (s.size : Int) ≤ i) : spec_l02Reader_byte.f s i b = some (0, s, i, true) := by
  unfold spec_l02Reader_byte.f
  rw [if_pos (by omega)]
theorem rtake_yes (s : ByteArray) (i n : Nat) (b : Bool) (hs : s.size ≤ 140737488351232) (h : i + n ≤ s.size) : spec_l02Reader_take.f s i b n = some (s.extract i (i + n), s, (i : Int) + n, b) := by
  unfold spec_l02Reader_take.f
  rw [if_neg (by omega), w64 (x := (s.size : Int) - i) (by omega) (by omega), if_neg (by omega), w64 (x := (i : Int) + n) (by omega) (by omega), show (i : Int) + n - n = i by omega, w64 (x := (i : Int)) (by omega) (by omega), if_pos (by omega), if_pos (by omega), if_pos (by omega)]
  rw [show ((i : Int)).toNat = i by omega, show ((i : Int) + n).toNat = i + n by omega]
theorem rtake_no (s : ByteArray) (i : Nat) (n : Int) (b : Bool) (hs : s.size ≤ 140737488351232) (hi : i ≤ s.size) (h : n < 0 ∨ (s.size : Int) < i + n) : spec_l02Reader_take.f s i b n = some ((⟨#[]⟩ : ByteArray), s, (i : Int), true) := by
  unfold spec_l02Reader_take.f
  by_cases hn : n < 0
  · rw [if_pos hn]
  · rw [if_neg hn, w64 (x := (s.size : Int) - i) (by omega) (by omega), if_pos (by omega)]

/-! ### nameModel -/
def isLetter (c : Int) : Bool := (decide (65 ≤ c) && decide (c ≤ 90)) || (decide (97 ≤ c) && decide (c ≤ 122))
def isNameCh (c : Int) : Bool := isLetter c || (decide (48 ≤ c) && decide (c ≤ 57)) || decide (c = 95)
def allFrom (s : ByteArray) (i : Nat) : Nat → Bool
  | 0 => true
  | d + 1 => isNameCh (bt s i) && allFrom s (i + 1) d
/-- A name: one to twelve letters, digits and underscores, a letter first. -/
def isNm (s : ByteArray) : Bool := decide (1 ≤ s.size) && decide (s.size ≤ 12) && isLetter (bt s 0) && allFrom s 1 (s.size - 1)

/-! ### heapModel -/
def okNames : List ByteArray → Bool
  | [] => true
  | s :: l => (decide (s.size = 0) || isNm s) && okNames l
/-- A valid heap's names. -/
def okHeap (l : List ByteArray) : Bool := decide (l.length ≤ 30) && (decide (l.length = 0) || decide ((rdOf ByteArray.empty l (l.length - 1)).size ≠ 0)) && okNames l
theorem okNames_app (a b : List ByteArray) : okNames (a ++ b) = (okNames a && okNames b) := by
  induction a with
  | nil => simp [okNames]
  | cons x a ih => simp [okNames, ih, Bool.and_assoc]
theorem rdOf_at {α : Type} (z : α) (a : List α) (x : α) (b : List α) : rdOf z (a ++ x :: b) a.length = x := by simp [rdOf]

/-! ### specIsName -/
theorem specLetter_eq (c : Int) : spec_l01Letter.f c = some (isLetter c) := by
  unfold spec_l01Letter.f isLetter
  by_cases h1 : c ≥ 65 <;> by_cases h2 : c ≤ 90 <;> by_cases h3 : c ≥ 97 <;> by_cases h4 : c ≤ 122 <;> simp [h1, h2, h3, h4] <;> omega
theorem specIsName_l0 (s : ByteArray) (hs : s.size ≤ 140737488351232) (d : Nat) : ∀ (k i : Nat), i + d = s.size → d < k → spec_IsName.l0 k s i = some (allFrom s i d) := by
  induction d with
  | zero =>
    intro k i hi hk
    obtain ⟨k, rfl⟩ : ∃ m, k = m + 1 := ⟨k - 1, by omega⟩
    simp only [spec_IsName.l0, allFrom]
    rw [if_neg (by omega)]
  | succ d ih =>
    intro k i hi hk
    obtain ⟨k, rfl⟩ : ∃ m, k = m + 1 := ⟨k - 1, by omega⟩
    have hn := ih k (i + 1) (by omega) (by omega)
    rw [show ((i + 1 : Nat) : Int) = (i : Int) + 1 by omega] at hn
    simp only [spec_IsName.l0, allFrom, specLetter_eq, obind]
    rw [if_pos (by omega), if_pos (by omega), w64 (x := (i : Int) + 1) (by omega) (by omega), hn]
    unfold isNameCh
    by_cases h1 : isLetter (bt s i) = true
    · rw [if_pos h1]; simp [h1]
    · rw [if_neg h1]
      by_cases h2 : bt s i ≥ 48 <;> by_cases h3 : bt s i ≤ 57 <;> by_cases h4 : bt s i = 95 <;> simp [h1, h2, h3, h4] <;> omega
theorem specIsName_eq (s : ByteArray) (hs : s.size ≤ 140737488351232) (k : Nat) (hk : 14 < k) : spec_IsName.f k s = some (isNm s) := by
  unfold spec_IsName.f isNm
  obtain ⟨k, rfl⟩ : ∃ m, k = m + 1 := ⟨k - 1, by omega⟩
  simp only [spec_IsName.j0, specLetter_eq, obind]
  by_cases h0 : (s.size : Int) = 0
  · rw [if_pos h0]; simp; omega
  · rw [if_neg h0]
    by_cases h1 : (s.size : Int) > 12
    · rw [if_pos h1]; simp; omega
    · rw [if_neg h1, if_pos (by omega)]
      have hn := specIsName_l0 s hs (s.size - 1) k 1 (by omega) (by omega)
      have e : ((1 : Nat) : Int) = 1 := rfl
      rw [e] at hn
      rw [hn]
      have h2 : 1 ≤ s.size := by omega
      have h3 : s.size ≤ 12 := by omega
      by_cases hl : isLetter (bt s 0) = true <;> simp [hl, h2, h3]

/-! ### specHeapOk -/
theorem specHeapOk_l0 (d : Nat) : ∀ (k : Nat) (a b : List ByteArray), b.length = d → d + 15 < k → a.length + d ≤ 100000 → (∀ s ∈ b, s.size ≤ 140737488351232) →
    spec_l16Ok.l0 k ((a ++ b).length : Int) a.length (a ++ b) = some (okNames b) := by
  induction d with
  | zero =>
    intro k a b hb hk hl hs
    obtain ⟨k, rfl⟩ : ∃ m, k = m + 1 := ⟨k - 1, by omega⟩
    obtain rfl : b = [] := List.eq_nil_of_length_eq_zero hb
    simp only [spec_l16Ok.l0]
    rw [if_neg (by simp)]
    rfl
  | succ d ih =>
    intro k a b hb hk hl hs
    obtain ⟨k, rfl⟩ : ∃ m, k = m + 1 := ⟨k - 1, by omega⟩
    match b, hb with
    | x :: b, hb =>
    have hi := ih k (a ++ [x]) b (by simpa using hb) (by omega) (by simp; omega) (fun s h => hs s (List.mem_cons_of_mem _ h))
    rw [List.append_assoc, List.singleton_append, show ((a ++ [x]).length : Int) = (a.length : Int) + 1 by simp] at hi
    simp only [spec_l16Ok.l0]
    rw [if_pos (by simp; omega), if_pos (by omega), if_pos (by simp; omega), rdOf_at, w64 (x := (a.length : Int) + 1) (by omega) (by omega), hi, specIsName_eq x (hs x (List.mem_cons_self ..)) k (by omega)]
    simp only [obind, okNames]
    by_cases hz : x.size = 0
    · rw [if_pos ((toList_nil x).2 hz)]; simp [hz]
    · rw [if_neg (fun h => hz ((toList_nil x).1 h))]
      cases isNm x <;> simp [hz]
theorem specHeapOk_eq (l : List ByteArray) (hl : l.length ≤ 100000) (hs : ∀ s ∈ l, s.size ≤ 140737488351232) (k : Nat) (hk : l.length + 20 < k) : spec_l16Ok.f k l = some (okHeap l) := by
  unfold spec_l16Ok.f okHeap
  obtain ⟨k, rfl⟩ : ∃ m, k = m + 1 := ⟨k - 1, by omega⟩
  have h0 := specHeapOk_l0 l.length k [] l rfl (by omega) (by simpa using hl) hs
  rw [List.nil_append, show (([] : List ByteArray).length : Int) = 0 from rfl] at h0
  simp only [spec_l16Ok.j0]
  by_cases h1 : (l.length : Int) > 30
  · rw [if_pos h1]; simp; omega
  · have h30 : l.length ≤ 30 := by omega
    rw [if_neg h1]
    by_cases h2 : (l.length : Int) > 0
    · have hne : ¬ l.length = 0 := by omega
      rw [if_pos h2, w64 (x := (l.length : Int) - 1) (by omega) (by omega), if_pos (by omega), if_pos (by omega), h0]
      generalize rdOf ByteArray.empty l ((l.length : Int) - 1) = x
      by_cases hz : x.size = 0
      · have he := (toList_nil x).2 hz
        simp [he, hz, hne]
      · have he : ¬ x.toList = ([] : List UInt8) := fun h => hz ((toList_nil x).1 h)
        simp [he, hz, h30]
    · have hn : l.length = 0 := by omega
      rw [if_neg h2, h0]
      simp [hn]

/-! ### implIsName -/
/-- What a round of IsName's loop comes to. -/
theorem implIsName_round (k : Nat) (s : ByteArray) (i : Nat) (hi : i < s.size) (hs : s.size ≤ 140737488351232) :
    impl_IsName.l0 (k + 1) s s.size i = if isLetter (bt s i) || (decide (i ≠ 0) && isNameCh (bt s i)) then impl_IsName.l0 k s s.size ((i : Int) + 1) else some false := by
  obtain ⟨b0, b1⟩ := bt_range s i
  simp only [impl_IsName.l0]
  rw [if_pos (by omega), if_pos (by omega), if_pos (by omega), w64 (x := (i : Int) + 1) (by omega) (by omega)]
  generalize bt s i = c at *
  generalize impl_IsName.l0 k s s.size ((i : Int) + 1) = R
  have hz : ((i : Int) = 0) ↔ (i = 0) := by omega
  unfold isNameCh isLetter
  by_cases z : i = 0
  · simp only [z, Int.natCast_zero, if_true]
    by_cases h1 : c ≥ 65 <;> by_cases h2 : c ≤ 90 <;> by_cases h3 : c ≥ 97 <;> by_cases h4 : c ≤ 122 <;> simp [h1, h2, h3, h4] <;> omega
  · have z' : ¬ ((i : Int) = 0) := by omega
    simp only [if_neg z']
    by_cases h1 : c ≥ 65 <;> by_cases h2 : c ≤ 90 <;> by_cases h3 : c ≥ 97 <;> by_cases h4 : c ≤ 122 <;> by_cases h5 : c < 48 <;> by_cases h6 : c > 57 <;> by_cases h7 : c = 95 <;> simp [h1, h2, h3, h4, h5, h6, h7, z] <;> omega
theorem implIsName_l0 (s : ByteArray) (hs : s.size ≤ 140737488351232) (R : Bool) (d : Nat) : ∀ (k i : Nat), 1 ≤ i → i + d = s.size → d < k →
    (∀ j : Nat, 0 < j → impl_IsName.l0 j s s.size s.size = some R) → impl_IsName.l0 k s s.size i = some (allFrom s i d && R) := by
  induction d with
  | zero =>
    intro k i h1 hi hk hR
    rw [show i = s.size by omega, hR k (by omega)]
    simp [allFrom]
  | succ d ih =>
    intro k i h1 hi hk hR
    obtain ⟨k, rfl⟩ : ∃ m, k = m + 1 := ⟨k - 1, by omega⟩
    have hn := ih k (i + 1) (by omega) (by omega) (by omega) hR
    rw [show ((i + 1 : Nat) : Int) = (i : Int) + 1 by omega] at hn
    have hz : i ≠ 0 := by omega
    have hc : (isLetter (bt s i) || (decide (i ≠ 0) && isNameCh (bt s i))) = isNameCh (bt s i) := by
      unfold isNameCh
      cases isLetter (bt s i) <;> simp [hz]
    rw [implIsName_round k s i (by omega) hs, hn, hc]
    simp only [allFrom]
    cases isNameCh (bt s i) <;> simp
theorem implIsName_end (s : ByteArray) (j : Nat) (hj : 0 < j) : impl_IsName.l0 j s s.size s.size = some (decide (1 ≤ s.size) && decide (s.size ≤ 12)) := by
  obtain ⟨j, rfl⟩ : ∃ m, j = m + 1 := ⟨j - 1, by omega⟩
  simp only [impl_IsName.l0]
  rw [if_neg (by omega)]
  by_cases h1 : 1 ≤ s.size
  · rw [if_pos (by omega)]
    congr 1
    by_cases h2 : s.size ≤ 12
    · rw [decide_eq_true (show (s.size : Int) ≤ 12 by omega)]; simp [h1, h2]
    · rw [decide_eq_false (show ¬ (s.size : Int) ≤ 12 by omega)]; simp [h1, h2]
  · rw [if_neg (by omega)]; simp [h1]
theorem implIsName_eq (s : ByteArray) (hs : s.size ≤ 140737488351232) (k : Nat) (hk : s.size + 1 < k) : impl_IsName.f k s = some (isNm s) := by
  unfold impl_IsName.f isNm
  by_cases h0 : s.size = 0
  · have := implIsName_end s k (by omega)
    rw [h0] at this
    rw [h0]
    rw [show ((0 : Nat) : Int) = 0 from rfl] at *
    rw [this]
    simp
  · obtain ⟨k, rfl⟩ : ∃ m, k = m + 1 := ⟨k - 1, by omega⟩
    have hr := implIsName_round k s 0 (by omega) hs
    rw [show ((0 : Nat) : Int) = 0 from rfl] at hr
    rw [hr]
    have hn := implIsName_l0 s hs _ (s.size - 1) k 1 (by omega) (by omega) (by omega) (implIsName_end s)
    rw [show ((1 : Nat) : Int) = 0 + 1 by omega] at hn
    rw [hn]
    have h1 : 1 ≤ s.size := by omega
    cases isLetter (bt s 0) <;> cases allFrom s 1 (s.size - 1) <;> by_cases h2 : s.size ≤ 12 <;> simp [h1, h2]

/-! ### implValidHeap -/
theorem badName_eq (s : ByteArray) (hs : s.size ≤ 140737488351232) (k : Nat) (hk : s.size + 1 < k) : impl_ValidHeap_1.f k s = some (!(decide (s.size = 0) || isNm s)) := by
  unfold impl_ValidHeap_1.f
  by_cases hz : s.size = 0
  · rw [if_pos ((toList_nil s).2 hz)]; simp [hz]
  · rw [if_neg (fun h => hz ((toList_nil s).1 h)), implIsName_eq s hs k hk]
    simp [hz]
theorem badNames_l0 (B d : Nat) : ∀ (k : Nat) (a b : List ByteArray), b.length = d → d + B + 5 < k → a.length + d ≤ 100000 → (∀ s ∈ b, s.size ≤ B) → B ≤ 140737488351232 →
    ∃ r, slices_IndexFunc_string_string_impl_ValidHeap_1.l0 k (a ++ b) ((a ++ b).length : Int) a.length = some r ∧ decide (r ≥ 0) = !okNames b := by
  induction d with
  | zero =>
    intro k a b hb hk hl hs hB
    obtain ⟨k, rfl⟩ : ∃ m, k = m + 1 := ⟨k - 1, by omega⟩
    obtain rfl : b = [] := List.eq_nil_of_length_eq_zero hb
    simp only [slices_IndexFunc_string_string_impl_ValidHeap_1.l0]
    rw [if_neg (by simp)]
    exact ⟨_, rfl, by simp [okNames]⟩
  | succ d ih =>
    intro k a b hb hk hl hs hB
    obtain ⟨k, rfl⟩ : ∃ m, k = m + 1 := ⟨k - 1, by omega⟩
    match b, hb with
    | x :: b, hb =>
    obtain ⟨r, hi, hr⟩ := ih k (a ++ [x]) b (by simpa using hb) (by omega) (by simp; omega) (fun s h => hs s (List.mem_cons_of_mem _ h)) hB
    rw [List.append_assoc, List.singleton_append, show ((a ++ [x]).length : Int) = (a.length : Int) + 1 by simp] at hi
    have hx := hs x (List.mem_cons_self ..)
    simp only [slices_IndexFunc_string_string_impl_ValidHeap_1.l0]
    rw [if_pos (by simp; omega), if_pos (by omega), if_pos (by simp; omega), rdOf_at, w64 (x := (a.length : Int) + 1) (by omega) (by omega), badName_eq x (by omega) k (by omega)]
    simp only [obind, okNames]
    cases hz : (decide (x.size = 0) || isNm x)
    · rw [if_pos (by rfl)]
      exact ⟨_, rfl, by simp⟩
    · rw [if_neg (by simp)]
      exact ⟨r, hi, by rw [hr]; simp⟩
theorem implValidHeap_eq (B : Nat) (l : List ByteArray) (hl : l.length ≤ 100000) (hs : ∀ s ∈ l, s.size ≤ B) (hB : B ≤ 140737488351232) (k : Nat) (hk : l.length + B + 10 < k) : impl_ValidHeap.f k l = some (okHeap l) := by
  unfold impl_ValidHeap.f okHeap
  obtain ⟨r, h0, hr⟩ := badNames_l0 B l.length k [] l rfl (by omega) (by simpa using hl) hs hB
  rw [List.nil_append, show (([] : List ByteArray).length : Int) = 0 from rfl] at h0
  have hc : slices_ContainsFunc_string_string_impl_ValidHeap_1.f k l = some (!okNames l) := by
    unfold slices_ContainsFunc_string_string_impl_ValidHeap_1.f slices_IndexFunc_string_string_impl_ValidHeap_1.f
    rw [h0]
    simp only [obind]
    rw [hr]
  rw [hc]
  simp only [obind]
  by_cases h1 : (l.length : Int) ≤ 30
  · have h30 : l.length ≤ 30 := by omega
    rw [if_pos h1]
    by_cases h2 : (l.length : Int) = 0
    · rw [if_pos h2]
      have hn : l.length = 0 := by omega
      simp [hn]
    · have hne : ¬ l.length = 0 := by omega
      rw [if_neg h2, w64 (x := (l.length : Int) - 1) (by omega) (by omega), if_pos (by omega), if_pos (by omega)]
      generalize rdOf ByteArray.empty l ((l.length : Int) - 1) = x
      by_cases hz : x.size = 0
      · rw [if_pos ((toList_nil x).2 hz)]; simp [hz, hne]
      · rw [if_neg (fun h => hz ((toList_nil x).1 h))]; simp [hz, h30]
  · rw [if_neg h1]; simp; omega

/-! ### eqString -/
theorem eqStringS_self (l : List ByteArray) (hl : l.length ≤ 1099511627776) (d : Nat) : ∀ (k i : Nat), i + d = l.length → d < k → laws_eqStringS.l0 k l l i = some true := by
  induction d with
  | zero =>
    intro k i hi hk
    obtain ⟨k, rfl⟩ : ∃ m, k = m + 1 := ⟨k - 1, by omega⟩
    simp only [laws_eqStringS.l0]
    rw [if_neg (by omega)]
  | succ d ih =>
    intro k i hi hk
    obtain ⟨k, rfl⟩ : ∃ m, k = m + 1 := ⟨k - 1, by omega⟩
    simp only [laws_eqStringS.l0]
    rw [if_pos (by omega), if_pos (by omega), if_pos (by omega), w64 (x := (i : Int) + 1) (by omega) (by omega), if_pos trivial]
    exact ih k (i + 1) (by omega) (by omega)
theorem eqStringS_refl (l : List ByteArray) (hl : l.length ≤ 1099511627776) (k : Nat) (hk : l.length < k) : laws_eqStringS.f k l l = some true := by
  unfold laws_eqStringS.f
  rw [if_pos rfl]
  exact eqStringS_self l hl l.length k 0 (by omega) hk

/-! ### markText -/
theorem markText_l0 (d : Nat) : ∀ (k : Nat) (n : Int) (s : ByteArray), 0 ≤ n → n < 10 ^ d → n ≤ 9223372036854775807 → d < k → s.size + d ≤ 1000 → ∃ t, laws_markText.l0 k n s = some t := by
  induction d with
  | zero =>
    intro k n s h0 h1 h2 hk hs
    obtain ⟨k, rfl⟩ : ∃ m, k = m + 1 := ⟨k - 1, by omega⟩
    simp only [laws_markText.l0]
    rw [if_neg (by omega), if_pos (by omega)]
    exact ⟨_, rfl⟩
  | succ d ih =>
    intro k n s h0 h1 h2 hk hs
    obtain ⟨k, rfl⟩ : ∃ m, k = m + 1 := ⟨k - 1, by omega⟩
    simp only [laws_markText.l0, obind]
    by_cases hn : n > 0
    · rw [if_pos hn, size_ofNums]
      rw [if_pos (by simp; omega), Int.tdiv_eq_ediv_of_nonneg h0, w64 (x := n / 10) (by omega) (by omega)]
      refine ih k (n / 10) _ (by omega) ?_ (by omega) (by omega) ?_
      · rw [Int.pow_succ] at h1
        omega
      · rw [ByteArray.size_append, size_ofNums]; simp; omega
    · rw [if_neg hn, if_pos (by omega)]
      exact ⟨_, rfl⟩
/-- The text of a number's mark. -/
def mtx (n : Int) : ByteArray := (laws_markText.f 40 n).getD ⟨#[]⟩
theorem markText_eq (n : Int) (h : n ≤ 9223372036854775807) (k : Nat) (hk : 40 ≤ k) : laws_markText.f k n = some (mtx n) := by
  have h1 : ∃ t, laws_markText.f 40 n = some t := by
    unfold laws_markText.f
    by_cases hn : n ≤ 0
    · rw [if_pos hn]; exact ⟨_, rfl⟩
    · rw [if_neg hn]
      refine markText_l0 20 40 n _ (by omega) ?_ h (by omega) (by decide)
      have : (10 : Int) ^ 20 = 100000000000000000000 := by decide +kernel
      omega
  obtain ⟨t, ht⟩ := h1
  have he : mtx n = t := by unfold mtx; rw [ht]; rfl
  rw [he]
  exact at_rounds (g := fun k => laws_markText.f k n) (fun k => laws_markText.mono n k) hk ht

/-! ### markString -/
def strsFrom (m : Int) (d : Nat) : List ByteArray := (List.range d).map fun j : Nat => mtx (m + j)
theorem strsFrom_succ (m : Int) (d : Nat) : strsFrom m (d + 1) = mtx m :: strsFrom (m + 1) d := by
  unfold strsFrom
  rw [List.range_succ_eq_map, List.map_cons, List.map_map]
  congr 1
  · simp
  · apply List.map_congr_left
    intro j _
    show mtx (m + ((j + 1 : Nat) : Int)) = mtx (m + 1 + j)
    rw [show m + ((j + 1 : Nat) : Int) = m + 1 + j by omega]
theorem markStringS_l0 (d : Nat) : ∀ (k : Nat) (a b : List ByteArray) (m : Int), b.length = d → d + 41 < k → a.length + d ≤ 1099511627776 → 0 ≤ m → m + d ≤ 9223372036854775000 →
    laws_markStringS.l0 k (a ++ b) m a.length = some (m + d, a ++ strsFrom m d) := by
  induction d with
  | zero =>
    intro k a b m hb hk hl h0 h1
    obtain ⟨k, rfl⟩ : ∃ m, k = m + 1 := ⟨k - 1, by omega⟩
    obtain rfl : b = [] := List.eq_nil_of_length_eq_zero hb
    simp only [laws_markStringS.l0]
    rw [if_neg (by simp)]
    simp [strsFrom]
  | succ d ih =>
    intro k a b m hb hk hl h0 h1
    obtain ⟨k, rfl⟩ : ∃ m, k = m + 1 := ⟨k - 1, by omega⟩
    match b, hb with
    | x :: b, hb =>
    simp only [laws_markStringS.l0]
    have hset : ∀ (y z : ByteArray), (a ++ y :: b).set (a.length : Int).toNat z = a ++ z :: b := fun y z => by simp
    rw [if_pos (by simp; omega), markText_eq m (by omega) k (by omega)]
    simp only [obind]
    rw [if_pos (by omega), hset, w64 (x := m + 1) (by omega) (by omega), w64 (x := (a.length : Int) + 1) (by omega) (by omega)]
    have := ih k (a ++ [mtx m]) b (m + 1) (by simpa using hb) (by omega) (by simp; omega) (by omega) (by omega)
    simp only [List.append_assoc, List.singleton_append, List.length_append, List.length_singleton, Int.natCast_add, Int.cast_ofNat_Int] at this
    rw [this, strsFrom_succ]
    congr 2
    omega
theorem heldStringS_l0 (d : Nat) : ∀ (k : Nat) (a : List ByteArray) (m : Int), d + 41 < k → a.length + d ≤ 1099511627776 → 0 ≤ m → m + d ≤ 9223372036854775000 →
    laws_heldStringS.l0 k (a ++ strsFrom m d) m a.length = some (m + d) := by
  induction d with
  | zero =>
    intro k a m hk hl h0 h1
    obtain ⟨k, rfl⟩ : ∃ m, k = m + 1 := ⟨k - 1, by omega⟩
    simp only [laws_heldStringS.l0]
    rw [if_neg (by simp [strsFrom])]
    simp
  | succ d ih =>
    intro k a m hk hl h0 h1
    obtain ⟨k, rfl⟩ : ∃ m, k = m + 1 := ⟨k - 1, by omega⟩
    rw [strsFrom_succ]
    simp only [laws_heldStringS.l0]
    have hrd : rdOf ByteArray.empty (a ++ mtx m :: strsFrom (m + 1) d) a.length = mtx m := by simp [rdOf]
    rw [if_pos (by simp; omega), if_pos (by omega), markText_eq m (by omega) k (by omega), hrd]
    simp only [obind]
    rw [if_pos trivial, w64 (x := m + 1) (by omega) (by omega), w64 (x := (a.length : Int) + 1) (by omega) (by omega)]
    have := ih k (a ++ [mtx m]) (m + 1) (by omega) (by simp; omega) (by omega) (by omega)
    simp only [List.append_assoc, List.singleton_append, List.length_append, List.length_singleton, Int.natCast_add, Int.cast_ofNat_Int] at this
    rw [this]
    congr 1
    omega
theorem markStringS_f (l : List ByteArray) (hl : l.length ≤ 1099511627776) (k : Nat) (hk : l.length + 41 < k) : laws_markStringS.f k l 1 = some (1 + (l.length : Int), strsFrom 1 l.length) := by
  unfold laws_markStringS.f
  exact markStringS_l0 l.length k [] l 1 rfl hk (by simpa using hl) (by omega) (by omega)
theorem heldStringS_f (n : Nat) (hl : n ≤ 1099511627776) (k : Nat) (hk : n + 41 < k) : laws_heldStringS.f k (strsFrom 1 n) 1 = some (1 + (n : Int)) := by
  unfold laws_heldStringS.f
  exact heldStringS_l0 n k [] 1 hk (by simpa using hl) (by omega) (by omega)

theorem spec_bad (s : ByteArray) (n : Int) (i : Int) (acc : List ByteArray) (k : Nat) (hk : 2 ≤ k) : spec_DecodeHeap.l0 k s n s i true acc = some (([] : List ByteArray), false) := by
  obtain ⟨k, rfl⟩ : ∃ m, k = m + 2 := ⟨k - 2, by omega⟩
  simp [spec_DecodeHeap.l0, spec_DecodeHeap.j1]
theorem impl_bad (r : ByteArray) (n : Int) (acc : List ByteArray) (k : Nat) (hk : 1 ≤ k) : impl_DecodeHeap.l0 k n r true acc = some (([] : List ByteArray), false) := by
  obtain ⟨k, rfl⟩ : ∃ m, k = m + 1 := ⟨k - 1, by omega⟩
  simp [impl_DecodeHeap.l0]
theorem heap_both (s : ByteArray) (hs : s.size ≤ 1048576) (n : Nat) : ∀ (k i : Nat) (acc : List ByteArray), i ≤ s.size → acc.length + n ≤ 1000 → (∀ x ∈ acc, x.size ≤ 1048576) → 2 * n + 1060000 ≤ k →
    ∃ r, spec_DecodeHeap.l0 k s n s i false acc = some r ∧ impl_DecodeHeap.l0 k n (s.extract i s.size) false acc = some r ∧ r.1.length ≤ 1000 := by
  induction n with
  | zero =>
    intro k i acc hi hl ha hk
    obtain ⟨k, rfl⟩ : ∃ m, k = m + 2 := ⟨k - 2, by omega⟩
    have hz := extract_all_size s i
    simp only [spec_DecodeHeap.l0, spec_DecodeHeap.j1]
    rw [impl_DecodeHeap.l0]
    have hz0 : ¬ (((0 : Nat) : Int) > 0) := by omega
    simp only [if_neg hz0, Bool.false_eq_true, if_false]
    by_cases he : (i : Int) = s.size
    · rw [if_pos he, if_pos ((toList_nil _).2 (by omega))]
      rw [specHeapOk_eq acc (by omega) (fun x hx => by have := ha x hx; omega) k (by omega), implValidHeap_eq 1048576 acc (by omega) ha (by omega) (k + 1) (by omega)]
      simp only [obind]
      cases okHeap acc
      · exact ⟨_, rfl, rfl, by simp⟩
      · exact ⟨_, rfl, rfl, by simp; omega⟩
    · rw [if_neg he, if_neg (fun h => he (by have := (toList_nil _).1 h; omega))]
      exact ⟨_, rfl, rfl, by simp⟩
  | succ n ih =>
    intro k i acc hi hl ha hk
    obtain ⟨k, rfl⟩ : ∃ m, k = m + 2 := ⟨k - 2, by omega⟩
    have hz := extract_all_size s i
    have e1 : wrap64 (((n + 1 : Nat) : Int) - 1) = n := by rw [w64] <;> omega
    simp only [spec_DecodeHeap.l0, spec_DecodeHeap.j1]
    rw [impl_DecodeHeap.l0]
    have hp : ((n + 1 : Nat) : Int) > 0 := by omega
    simp only [e1, if_pos hp, Bool.not_false, if_true, Bool.false_eq_true, if_false]
    by_cases h1 : i < s.size
    · obtain ⟨b0, b1⟩ := bt_range s i
      rw [rbyte_yes s i false (by omega) h1]
      simp only [obind]
      by_cases h2 : i + 1 + (bt s i).toNat ≤ s.size
      · have ht := rtake_yes s (i + 1) (bt s i).toNat false (by omega) h2
        rw [show ((i + 1 : Nat) : Int) = (i : Int) + 1 by omega, show (((bt s i).toNat : Nat) : Int) = bt s i by omega] at ht
        rw [ht, name_ok s i false (by omega) h1 h2 _ (by omega)]
        simp only [obind]
        rw [if_pos (by omega), if_pos (by omega)]
        have hx : (s.extract (i + 1) (i + 1 + (bt s i).toNat)).size ≤ 1048576 := by rw [size_extract _ _ _ h2]; omega
        have hacc : ∀ x ∈ acc ++ [s.extract (i + 1) (i + 1 + (bt s i).toNat)], x.size ≤ 1048576 := by
          intro x hx'
          rcases List.mem_append.1 hx' with h | h
          · exact ha x h
          · rw [List.mem_singleton.1 h]; exact hx
        obtain ⟨r, hr1, hr2, hr3⟩ := ih k (i + 1 + (bt s i).toNat) (acc ++ [s.extract (i + 1) (i + 1 + (bt s i).toNat)]) h2 (by simp; omega) hacc (by omega)
        have hr2' := at_rounds (g := fun k => impl_DecodeHeap.l0 k n (s.extract (i + 1 + (bt s i).toNat) s.size) false (acc ++ [s.extract (i + 1) (i + 1 + (bt s i).toNat)])) (fun k => impl_DecodeHeap.mono_l k _ _ _ _) (show k ≤ k + 1 by omega) hr2
        rw [show ((i + 1 + (bt s i).toNat : Nat) : Int) = (i : Int) + 1 + bt s i by omega] at hr1
        exact ⟨r, hr1, hr2', hr3⟩
      · have ht := rtake_no s (i + 1) (bt s i) false (by omega) (by omega) (by omega)
        rw [show ((i + 1 : Nat) : Int) = (i : Int) + 1 by omega] at ht
        rw [ht, name_short s i false (by omega) h1 (by omega) _ (by omega)]
        simp only [obind]
        rw [if_pos (by omega), if_pos (by omega), spec_bad _ _ _ _ _ (by omega), impl_bad _ _ _ _ (by omega)]
        exact ⟨_, rfl, rfl, by simp⟩
    · rw [rbyte_no s i false (by omega)]
      simp only [obind]
      have ht := rtake_yes s i 0 true (by omega) (by omega)
      rw [show ((0 : Nat) : Int) = 0 from rfl] at ht
      obtain ⟨r, hn, _⟩ := name_none (s.extract i s.size) false (by omega) (k + 1) (by omega)
      rw [ht, hn]
      simp only [obind]
      rw [if_pos (by omega), if_pos (by omega), spec_bad _ _ _ _ _ (by omega), impl_bad _ _ _ _ (by omega)]
      exact ⟨_, rfl, rfl, by simp⟩
theorem FnExactDecodeHeap : laws_FnExactDecodeHeap.Pure := by
  intro s _
  refine ⟨1070000, ?_⟩
  unfold laws_FnExactDecodeHeap.f
  by_cases hs : (s.size : Int) > 1048576
  · rw [if_pos hs]
  · rw [if_neg hs]
    have key : ∀ k : Nat, 1069990 ≤ k → ∃ r, spec_DecodeHeap.f k s = some r ∧ impl_DecodeHeap.f k s = some r ∧ r.1.length ≤ 1000 := by
      intro k hk
      unfold spec_DecodeHeap.f impl_DecodeHeap.f
      by_cases h0 : 0 < s.size
      · obtain ⟨b0, b1⟩ := bt_range s 0
        have hb := rbyte_yes s 0 false (by omega) h0
        rw [show ((0 : Nat) : Int) = 0 from rfl] at hb
        have hd := byte_yes s false (by omega) h0 k (by omega)
        rw [hb, hd]
        simp only [obind]
        obtain ⟨r, h1, h2, h3⟩ := heap_both s (by omega) (bt s 0).toNat k 1 [] (by omega) (by simp; omega) (by simp) (by omega)
        rw [show (((bt s 0).toNat : Nat) : Int) = bt s 0 by omega, show ((1 : Nat) : Int) = 1 from rfl] at *
        exact ⟨r, by rw [show (0 : Int) + 1 = 1 by omega]; exact h1, h2, h3⟩
      · rw [rbyte_no s 0 false (by omega), byte_no s false (by omega) k (by omega)]
        simp only [obind]
        rw [spec_bad _ _ _ _ _ (by omega), impl_bad _ _ _ _ (by omega)]
        exact ⟨_, rfl, rfl, by simp⟩
    obtain ⟨⟨l, ok⟩, h1, h2, h3⟩ := key 1070000 (by omega)
    obtain ⟨⟨l', ok'⟩, h1', h2', _⟩ := key 1069999 (by omega)
    have hm := at_rounds (g := fun k => impl_DecodeHeap.f k s) (fun k => impl_DecodeHeap.mono s k) (show 1069999 ≤ 1070000 by omega) h2'
    obtain ⟨rfl, rfl⟩ : l' = l ∧ ok' = ok := by
      have := hm.symm.trans h2
      simpa using this
    simp only at h3
    have hneg : ¬ (1 + (l'.length : Int) < 0) := by omega
    have heq : ∀ k : Nat, 1069990 ≤ k → laws_eqNameHeap.f k l' l' = some true := fun k hk => by
      unfold laws_eqNameHeap.f
      rw [eqStringS_refl l' (by omega) k (by omega)]
      rfl
    have hheld : ∀ k : Nat, 1069990 ≤ k → laws_heldNameHeap.f k (strsFrom 1 l'.length) 1 = some (1 + (l'.length : Int)) := fun k hk => by
      unfold laws_heldNameHeap.f
      rw [heldStringS_f l'.length (by omega) k (by omega)]
      simp only [obind, if_neg hneg]
    have hmark : ∀ k : Nat, 1069990 ≤ k → laws_markNameHeap.f k l' 1 = some (1 + (l'.length : Int), strsFrom 1 l'.length) := fun k hk => by
      unfold laws_markNameHeap.f
      rw [markStringS_f l' (by omega) k (by omega)]
      simp only [obind]
    have j0 : laws_FnExactDecodeHeap.j0 1070000 s ok' false l' l' = some true := by
      show (if false = true then (some false) else ((laws_markNameHeap.f 1069999 l' 1).bind fun bt192 => ((laws_heldNameHeap.f 1069999 bt192.2 1).bind fun t194 => (if t194 < 0 then (some false) else (if t194 = bt192.1 then ((impl_DecodeHeap.f 1069999 s).bind fun bt195 => ((laws_eqNameHeap.f 1069999 bt195.1 l').bind fun t200 => (if t200 = true then (laws_FnExactDecodeHeap.j1 1069999 bt192.1 (bt195.2 != ok') bt192.2) else (laws_FnExactDecodeHeap.j1 1069999 bt192.1 true bt192.2)))) else (some false)))))) = some true
      simp only [hmark 1069999 (by omega), hheld 1069999 (by omega), h2', heq 1069999 (by omega), obind, if_neg hneg, if_true, bne_self_eq_false]
      rw [if_neg (by simp)]
      show (if false = true then (some false) else ((laws_heldNameHeap.f 1069998 (strsFrom 1 l'.length) 1).bind fun t201 => (if t201 < 0 then (some false) else (if t201 = 1 + (l'.length : Int) then (some true) else (some false))))) = some true
      rw [if_neg (by simp), hheld 1069998 (by omega)]
      simp only [obind, if_neg hneg, if_true]
    simp only [h1, h2, obind, heq 1070000 (by omega), if_true, bne_self_eq_false]
    exact j0

end Go.Proofs.Ytlcbbiiohhplfaa.Pure
