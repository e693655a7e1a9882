/- DecodePipeline of the program answers as the reference's, for all arguments. -/
import Derived.Test.YtlcbbiiohhplfabKit
import Derived.Test.YtlcbbiiohhplfabMFnExactDecodePipelinex6
namespace Go.Proofs.Ytlcbbiiohhplfab.Pure
open Go.RowKit Go.Proofs.Ytlcbbiiohhplfab.PFnExactDecodePipeline Go.Proofs.YtlcbbiiohhplfabW.PrintWords Go.Proofs.YtlcbbiiohhplfabW.PrintLast Go.Proofs.Ytlcbbiiohhplfab.Kit

/-! ### within -/
theorem within_eq (a b c : Int) : impl_within.f a b c = some (decide (b ≤ a ∧ a ≤ c)) := by
  unfold impl_within.f
  by_cases h : b ≤ a
  · rw [if_pos h]; simp [h]
  · rw [if_neg h]; simp [h]

/-! ### cut -/
theorem cut_yes (s : ByteArray) (a n : Int) (hs : s.size ≤ 140737488351232) (h0 : 0 ≤ n) (h1 : 0 ≤ a) (h2 : a + n ≤ s.size) :
    impl_cut.f s a n = some (s.extract a.toNat (a + n).toNat, true) := by
  unfold impl_cut.f
  rw [if_neg (by omega), w64 (by omega) (by omega), within_eq, w64 (by omega) (by omega)]
  simp only [obind]
  rw [if_pos (by simp; omega), if_pos h1, if_pos (by omega), if_pos h2]
theorem cut_no (s : ByteArray) (a n : Int) (hs : s.size ≤ 140737488351232) (hn : -9223372036854775808 ≤ n ∧ n ≤ 9223372036854775807)
    (h : n < 0 ∨ a < 0 ∨ s.size < a + n) : impl_cut.f s a n = some ((⟨#[]⟩ : ByteArray), false) := by
  unfold impl_cut.f
  by_cases hn0 : n < 0
  · rw [if_pos hn0]
  · rw [if_neg hn0, w64 (by omega) (by omega), within_eq]
    simp only [obind]
    rw [if_neg (by simp; omega)]

/-! ### getBits -/
theorem getBits_l0 (s : ByteArray) (hs : s.size ≤ 8) (d : Nat) : ∀ (k i : Nat), i + d = s.size → d < k →
    impl_getBits.l0 k s (le s 0 i) s.size i = some (le s 0 s.size) := by
  induction d with
  | zero =>
    intro k i hi hk
    obtain ⟨k, rfl⟩ : ∃ m, k = m + 1 := ⟨k - 1, by omega⟩
    simp only [impl_getBits.l0]
    rw [if_neg (by omega), show i = s.size by omega]
  | succ d ih =>
    intro k i hi hk
    obtain ⟨k, rfl⟩ : ∃ m, k = m + 1 := ⟨k - 1, by omega⟩
    simp only [impl_getBits.l0]
    rw [if_pos (by omega), if_pos (by omega), if_pos (by omega), w64 (x := 8 * (i : Int)) (by omega) (by omega), if_pos (by omega), w64 (x := (i : Int) + 1) (by omega) (by omega)]
    obtain ⟨b0, b1⟩ := bt_range s i
    obtain ⟨l0, l1⟩ := le_bd s 0 i
    rw [wrap_u64, Int.emod_eq_of_lt b0 (by omega)]
    rw [or_shl_byte (le s 0 i) (bt s i) i (by omega) l0 l1 b0 b1]
    have := ih k (i + 1) (by omega) (by omega)
    rw [← this]
    simp [le]
theorem getBits_eq (s : ByteArray) (hs : s.size ≤ 8) (k : Nat) (hk : 8 < k) : impl_getBits.f k s = some (le s 0 s.size) := by
  unfold impl_getBits.f
  exact getBits_l0 s hs s.size k 0 (by omega) (by omega)

/-! ### decoder -/
theorem extract_all_size (s : ByteArray) (i : Nat) : (s.extract i s.size).size = s.size - i := by rw [size_extract _ _ _ (Nat.le_refl _)]
theorem take_yes (r : ByteArray) (b : Bool) (n : Int) (hr : r.size ≤ 140737488351232) (h0 : 0 ≤ n) (h1 : n ≤ r.size) :
    impl_decoder_take.f r b n = some (r.extract 0 n.toNat, r.extract n.toNat r.size, b) := by
  unfold impl_decoder_take.f
  rw [cut_yes r 0 n hr h0 (by omega) (by omega)]
  simp only [obind, if_true]
  rw [if_pos h0, if_pos h1, Int.zero_add]
  rfl
theorem take_no (r : ByteArray) (b : Bool) (n : Int) (hr : r.size ≤ 140737488351232) (hn : -9223372036854775808 ≤ n ∧ n ≤ 9223372036854775807) (h : n < 0 ∨ r.size < n) :
    impl_decoder_take.f r b n = some ((⟨#[]⟩ : ByteArray), r, true) := by
  unfold impl_decoder_take.f
  rw [cut_no r 0 n hr hn (by omega)]
  simp only [obind]
  rw [if_neg (by simp)]
theorem number_yes (r : ByteArray) (b : Bool) (n : Int) (hr : r.size ≤ 140737488351232) (h0 : 0 ≤ n) (h8 : n ≤ 8) (h1 : n ≤ r.size) (k : Nat) (hk : 8 < k) :
    impl_decoder_number.f k r b n = some (wrap64 (le r 0 n.toNat), r.extract n.toNat r.size, b) := by
  unfold impl_decoder_number.f
  rw [take_yes r b n hr h0 h1]
  have hs : (r.extract 0 n.toNat).size = n.toNat := by rw [size_extract _ _ _ (by omega)]; omega
  simp only [obind]
  rw [getBits_eq _ (by omega) k hk, hs, le_extract r 0 n.toNat (by omega) n.toNat (by omega)]
  simp only [obind]
  rfl
theorem number_no (r : ByteArray) (b : Bool) (n : Int) (hr : r.size ≤ 140737488351232) (hn : -9223372036854775808 ≤ n ∧ n ≤ 9223372036854775807) (h : n < 0 ∨ r.size < n) (k : Nat) (hk : 8 < k) :
    impl_decoder_number.f k r b n = some (0, r, true) := by
  unfold impl_decoder_number.f
  rw [take_no r b n hr hn h]
  simp only [obind]
  rw [getBits_eq (⟨#[]⟩ : ByteArray) (Nat.zero_le _) k hk]
  simp only [obind]
  show some (wrap64 0, r, true) = _
  rw [w64 (by omega) (by omega)]
theorem byte_yes (r : ByteArray) (b : Bool) (hr : r.size ≤ 140737488351232) (h1 : 0 < r.size) (k : Nat) (hk : 8 < k) : impl_decoder_byte.f k r b = some (bt r 0, r.extract 1 r.size, b) := by
  unfold impl_decoder_byte.f
  rw [number_yes r b 1 hr (by omega) (by omega) (by omega) k hk]
  simp only [obind]
  obtain ⟨b0, b1⟩ := bt_range r 0
  have e : le r 0 (1 : Int).toNat = bt r 0 := by
    show le r 0 1 = _
    simp [le]
  rw [e, w64 (by omega) (by omega)]
  rfl
theorem byte_no (r : ByteArray) (b : Bool) (h1 : r.size = 0) (k : Nat) (hk : 8 < k) : impl_decoder_byte.f k r b = some (0, r, true) := by
  unfold impl_decoder_byte.f
  rw [number_no r b 1 (by omega) (by omega) (by omega) k hk]
  simp only [obind]

/-! ### extracts -/
theorem extract_tail (s : ByteArray) (i j : Nat) (h : i + j ≤ s.size) : (s.extract i s.size).extract j (s.extract i s.size).size = s.extract (i + j) s.size := by
  have h0 := extract_all_size s i
  have h1 := extract_all_size s (i + j)
  apply ba_ext
  · rw [extract_all_size, h0, h1]; omega
  · intro q hq
    rw [extract_all_size, h0] at hq
    rw [bt_extract _ j _ q (by omega) (by omega) (Nat.le_refl _), show ((j : Int) + q) = ((j + q : Nat) : Int) by omega, bt_extract s i s.size _ (by omega) (by omega) (Nat.le_refl _), bt_extract s (i + j) s.size q (by omega) (by omega) (Nat.le_refl _)]
    congr 1
    omega
theorem extract_head (s : ByteArray) (i j : Nat) (h : i + j ≤ s.size) : (s.extract i s.size).extract 0 j = s.extract i (i + j) := by
  have h0 := extract_all_size s i
  apply ba_ext
  · rw [size_extract _ _ _ (by omega), size_extract _ _ _ h]; omega
  · intro q hq
    rw [size_extract _ _ _ (by omega)] at hq
    rw [bt_extract _ 0 _ q (by omega) (by omega) (by omega), show (((0 : Nat) : Int) + q) = q by omega, bt_extract s i s.size _ (by omega) (by omega) (Nat.le_refl _), bt_extract s i (i + j) q (by omega) (by omega) h]
theorem extract_whole (s : ByteArray) : s.extract 0 s.size = s := by
  apply ba_ext
  · rw [extract_all_size]; rfl
  · intro q hq
    rw [extract_all_size] at hq
    rw [bt_extract s 0 s.size q (by omega) (by omega) (Nat.le_refl _)]
    congr 1
    omega
theorem bt_tail0 (s : ByteArray) (i : Nat) (h : i < s.size) : bt (s.extract i s.size) 0 = bt s i := by
  have := bt_extract s i s.size 0 (by omega) (by omega) (Nat.le_refl _)
  rw [this]
  congr 1
theorem extract_none (s : ByteArray) (i : Nat) (h : i ≤ s.size) : s.extract i i = (⟨#[]⟩ : ByteArray) := by
  apply ba_ext
  · rw [size_extract _ _ _ h, Nat.sub_self]; rfl
  · intro q hq
    rw [size_extract _ _ _ h] at hq
    omega

/-! ### decByte -/
theorem dec_byte (s : ByteArray) (i : Nat) (b : Bool) (hs : s.size ≤ 140737488351232) (hi : i ≤ s.size) : ∃ (v : Int) (i' : Nat) (b' : Bool), i' ≤ s.size ∧ 0 ≤ v ∧ v ≤ 255 ∧ (b = true → b' = true) ∧
    (∀ k : Nat, 8 < k → impl_decoder_byte.f k (s.extract i s.size) b = some (v, s.extract i' s.size, b')) ∧ (i < s.size → v = bt s i ∧ i' = i + 1 ∧ b' = b) ∧ (s.size ≤ i → v = 0 ∧ i' = i ∧ b' = true) := by
  have hz := extract_all_size s i
  by_cases h : i < s.size
  · obtain ⟨b0, b1⟩ := bt_range s i
    refine ⟨bt s i, i + 1, b, by omega, b0, b1, fun h => h, fun k hk => ?_, fun _ => ⟨rfl, rfl, rfl⟩, fun _ => by omega⟩
    rw [byte_yes _ b (by omega) (by omega) k hk, bt_tail0 s i h, extract_tail s i 1 (by omega)]
  · refine ⟨0, i, true, hi, by omega, by omega, fun _ => rfl, fun k hk => ?_, fun _ => by omega, fun _ => ⟨rfl, rfl, rfl⟩⟩
    rw [byte_no _ b (by omega) k hk]

/-! ### l00In -/
theorem l00In_eq (a b c : Int) : spec_l00In.f a b c = some (decide (b ≤ a ∧ a ≤ c)) := by
  unfold spec_l00In.f
  by_cases h : b ≤ a
  · rw [if_pos h]; simp [h]
  · rw [if_neg h]; simp [h]

/-! ### filterModel -/
def okF (a b : Int) (c : Bool) : Bool := if a = 1 then decide (1 ≤ b ∧ b ≤ 24) && !c else if a = 2 then decide (b = 1 ∨ b = 2 ∨ b = 4) && !c else if a = 3 then decide (b = 0) else if a = 4 then decide (b = 0) else if a = 5 then decide (b = 0) && !c else false
def okFs : List S65 → Bool
  | [] => true
  | f :: l => okF f.f0 f.f1 f.f2 && okFs l
def okPipe (l : List S65) : Bool := decide (l.length ≤ 4) && okFs l
theorem rdFilter_at (a : List S65) (x : S65) (b : List S65) : rd_T65 (a ++ x :: b) a.length = x := by simp [rd_T65]
theorem okF_bd (a b : Int) (c : Bool) (h : okF a b c = true) : 1 ≤ a ∧ a ≤ 5 ∧ 0 ≤ b ∧ b ≤ 24 := by
  unfold okF at h
  by_cases h1 : a = 1
  · simp [h1] at h; omega
  · rw [if_neg h1] at h
    by_cases h2 : a = 2
    · simp [h2] at h; omega
    · rw [if_neg h2] at h
      by_cases h3 : a = 3
      · simp [h3] at h; omega
      · rw [if_neg h3] at h
        by_cases h4 : a = 4
        · simp [h4] at h; omega
        · rw [if_neg h4] at h
          by_cases h5 : a = 5
          · simp [h5] at h; omega
          · rw [if_neg h5] at h; cases h
def truthOf (c : Bool) : Int := if c = true then 1 else 0
def triOf (f : S65) : ByteArray := (strOfNums (bytesN f.f0 1) ++ strOfNums (bytesN f.f1 1)) ++ strOfNums (bytesN (truthOf f.f2) 1)
def encGo : ByteArray → List S65 → ByteArray
  | a, [] => a
  | a, f :: l => encGo (a ++ triOf f) l
def encPipe (l : List S65) : ByteArray := encGo (strOfNums (bytesN l.length 1)) l
theorem triOf_size (f : S65) : (triOf f).size = 3 := by
  unfold triOf
  simp only [ByteArray.size_append, size_ofNums, bytesN_length]
theorem encGo_size : ∀ (l : List S65) (a : ByteArray), (encGo a l).size = a.size + 3 * l.length
  | [], a => rfl
  | f :: l, a => by rw [encGo, encGo_size, ByteArray.size_append, triOf_size, List.length_cons]; omega
theorem encGo_bt0 : ∀ (l : List S65) (a : ByteArray), 0 < a.size → bt (encGo a l) 0 = bt a 0
  | [], a, _ => rfl
  | f :: l, a, h => by
    rw [encGo, encGo_bt0 l _ (by rw [ByteArray.size_append]; omega)]
    exact bt_append_left a (triOf f) 0 h
theorem encPipe_size (l : List S65) : (encPipe l).size = 1 + 3 * l.length := by
  unfold encPipe
  rw [encGo_size, size_ofNums, bytesN_length]
theorem encPipe_bt0 (l : List S65) : bt (encPipe l) 0 = (l.length : Int) % 256 := by
  unfold encPipe
  rw [encGo_bt0 l _ (by rw [size_ofNums, bytesN_length]; omega)]
  have h : 0 < (bytesN (l.length : Int) 1).length := by rw [bytesN_length]; omega
  rw [show (0 : Int) = ((0 : Nat) : Int) from rfl, bt_ofNums (bytesN_bd _ _) 0 h, bytesN_at]
  simp

/-! ### putBytes -/
theorem shr_bytes (n : Int) (j : Nat) (h : j < 8) : shr .i64 n (8 * (j : Int)) = n / 256 ^ j := by
  unfold shr
  rw [show min (8 * (j : Int)).toNat IntKind.i64.bits = 8 * j by simp [IntKind.bits]; omega, pow256]
theorem putBytes_l0 (n : Int) (D : Nat) (hD : D ≤ 8) (d : Nat) : ∀ (k i : Nat), i + d = D → d < k → impl_putBytes.l0 k n (bytesN n i ++ List.replicate d 0) D i = some (strOfNums (bytesN n D)) := by
  induction d with
  | zero =>
    intro k i hi hk
    obtain ⟨k, rfl⟩ : ∃ m, k = m + 1 := ⟨k - 1, by omega⟩
    simp only [impl_putBytes.l0]
    rw [if_neg (by omega)]
    simp [show i = D by omega]
  | succ d ih =>
    intro k i hi hk
    obtain ⟨k, rfl⟩ : ∃ m, k = m + 1 := ⟨k - 1, by omega⟩
    simp only [impl_putBytes.l0]
    rw [if_pos (by omega), w64 (x := 8 * (i : Int)) (by omega) (by omega), if_pos (by omega), if_pos (by omega), if_pos (by simp [bytesN_length]; omega), w64 (x := (i : Int) + 1) (by omega) (by omega), shr_bytes n i (by omega)]
    have := ih k (i + 1) (by omega) (by omega)
    rw [bytesN_succ] at this
    rw [← this]
    congr 1
    rw [List.replicate_succ]
    have hl := bytesN_length n i
    generalize bytesN n i = l at *
    subst hl
    simp
theorem putBytes_eq (n a : Int) (h0 : 0 ≤ a) (h1 : a ≤ 8) (k : Nat) (hk : 8 < k) : impl_putBytes.f k n a = some (strOfNums (bytesN n a.toNat)) := by
  unfold impl_putBytes.f
  rw [if_pos h0, if_pos (by omega)]
  simp only [obind, List.length_replicate]
  exact putBytes_l0 n a.toNat (by omega) a.toNat k 0 (by omega) (by omega)

/-! ### putUModel -/
def putU (n a : Int) : ByteArray := if 1 ≤ a ∧ a ≤ 8 ∧ 0 ≤ n ∧ (a < 8 → n / 256 ^ a.toNat = 0) then strOfNums (bytesN n a.toNat) else ⟨#[]⟩
theorem shr_all (n a : Int) (h0 : 0 ≤ a) (h8 : a < 8) : shr .i64 n (8 * a) = n / 256 ^ a.toNat := by
  obtain ⟨j, rfl⟩ := Int.eq_ofNat_of_zero_le h0
  exact shr_bytes n j (by omega)

/-! ### specBytes -/
theorem and255_eq (x : Int) : Go.bits .and .i64 x 255 % 256 = x % 256 := by
  have := bits_and_mask .i64 x 8 (by decide)
  rw [show (2 : Int) ^ 8 - 1 = 255 by rfl, wrap_i64', w64 (by omega) (by omega)] at this
  rw [this]
  omega
theorem specBytes_l0 (n : Int) (D : Nat) (hD : D ≤ 8) (d : Nat) : ∀ (k i : Nat), i + d = D → d < k → spec_l01Bytes.l0 k n D (bytesN n i) i = some (strOfNums (bytesN n D)) := by
  induction d with
  | zero =>
    intro k i hi hk
    obtain ⟨k, rfl⟩ : ∃ m, k = m + 1 := ⟨k - 1, by omega⟩
    simp only [spec_l01Bytes.l0]
    rw [if_neg (by omega), show i = D by omega]
  | succ d ih =>
    intro k i hi hk
    obtain ⟨k, rfl⟩ : ∃ m, k = m + 1 := ⟨k - 1, by omega⟩
    simp only [spec_l01Bytes.l0]
    have hu : IntKind.u64.wrap (i : Int) = i := by rw [wrap_u64]; omega
    have hu8 : IntKind.u64.wrap (8 * (i : Int)) = 8 * i := by rw [wrap_u64]; omega
    rw [if_pos (by omega), hu, hu8, if_pos (by omega), if_pos (by simp [bytesN_length]; omega), w64 (x := (i : Int) + 1) (by omega) (by omega), shr_bytes n i (by omega), and255_eq, ← bytesN_succ]
    exact ih k (i + 1) (by omega) (by omega)
theorem specBytes_eq (n a : Int) (h0 : 0 ≤ a) (h1 : a ≤ 8) (k : Nat) (hk : 8 < k) : spec_l01Bytes.f k n a = some (strOfNums (bytesN n a.toNat)) := by
  unfold spec_l01Bytes.f
  obtain ⟨D, rfl⟩ := Int.eq_ofNat_of_zero_le h0
  exact specBytes_l0 n D (by omega) D k 0 (by omega) (by omega)

/-! ### specPutUint -/
theorem specPutUint_eq (n a : Int) (ha : -9223372036854775808 ≤ a ∧ a ≤ 9223372036854775807) (k : Nat) (hk : 8 < k) : spec_l01PutUint.f k n a = some (putU n a) := by
  unfold spec_l01PutUint.f putU
  simp only [l00In_eq, obind, decide_eq_true_eq]
  by_cases h : 1 ≤ a ∧ a ≤ 8
  · have hu : IntKind.u64.wrap a = a := by rw [wrap_u64]; omega
    have hu8 : IntKind.u64.wrap (8 * a) = 8 * a := by rw [wrap_u64]; omega
    rw [if_pos h]
    by_cases hn : n < 0
    · rw [if_pos hn, if_neg (by omega)]
    · rw [if_neg hn]
      by_cases h8 : a < 8
      · rw [if_pos h8, hu, hu8, if_pos (by omega), shr_all n a (by omega) h8]
        by_cases hz : n / 256 ^ a.toNat = 0
        · rw [if_pos hz, specBytes_eq n a (by omega) (by omega) k hk, if_pos ⟨h.1, h.2, by omega, fun _ => hz⟩]
          simp only [obind]
        · rw [if_neg hz, if_neg (fun hh => hz (hh.2.2.2 h8))]
      · rw [if_neg h8, specBytes_eq n a (by omega) (by omega) k hk, if_pos ⟨h.1, h.2, by omega, fun hh => absurd hh h8⟩]
        simp only [obind]
  · rw [if_neg h, if_neg (fun hh => h ⟨hh.1, hh.2.1⟩)]

/-! ### specPipeline -/
theorem specFilterOk_eq (a b : Int) (c : Bool) : spec_l18Ok.f a b c = some (okF a b c) := by
  unfold spec_l18Ok.f okF
  simp only [l00In_eq, obind, decide_eq_true_eq]
  by_cases h1 : a = 1
  · rw [if_pos h1, if_pos h1]
    by_cases h : 1 ≤ b ∧ b ≤ 24
    · rw [if_pos h, decide_eq_true h]; simp
    · rw [if_neg h, decide_eq_false h]; simp
  · rw [if_neg h1, if_neg h1]
    by_cases h2 : a = 2
    · rw [if_pos h2, if_pos h2]
      by_cases k1 : b = 1
      · rw [if_pos k1]; simp [k1]
      · rw [if_neg k1]
        by_cases k2 : b = 2
        · rw [if_pos k2]; simp [k2]
        · rw [if_neg k2]
          by_cases k4 : b = 4
          · rw [if_pos k4]; simp [k4]
          · rw [if_neg k4]; simp [k1, k2, k4]
    · rw [if_neg h2, if_neg h2]
      by_cases h3 : a = 3
      · rw [if_pos h3, if_pos h3]; rfl
      · rw [if_neg h3, if_neg h3]
        by_cases h4 : a = 4
        · rw [if_pos h4, if_pos h4]; rfl
        · rw [if_neg h4, if_neg h4]
          by_cases h5 : a = 5
          · rw [if_pos h5, if_pos h5]
            by_cases k0 : b = 0
            · rw [if_pos k0]; simp [k0]
            · rw [if_neg k0]; simp [k0]
          · rw [if_neg h5, if_neg h5]
theorem specPipeOk_l0 (d : Nat) : ∀ (k : Nat) (a b : List S65), b.length = d → d < k → a.length + d ≤ 100000 → spec_l19Ok.l0 k (a ++ b) a.length = some (okFs b && decide ((a ++ b).length ≤ 4)) := by
  induction d with
  | zero =>
    intro k a b hb hk hl
    obtain ⟨k, rfl⟩ : ∃ m, k = m + 1 := ⟨k - 1, by omega⟩
    obtain rfl : b = [] := List.eq_nil_of_length_eq_zero hb
    simp only [spec_l19Ok.l0]
    rw [if_neg (by simp), List.append_nil]
    by_cases h : a.length ≤ 4
    · rw [decide_eq_true h, decide_eq_true (show (a.length : Int) ≤ 4 by omega)]; rfl
    · rw [decide_eq_false h, decide_eq_false (show ¬ (a.length : Int) ≤ 4 by omega)]; rfl
  | succ d ih =>
    intro k a b hb hk hl
    obtain ⟨k, rfl⟩ : ∃ m, k = m + 1 := ⟨k - 1, by omega⟩
    match b, hb with
    | x :: b, hb =>
    have hi := ih k (a ++ [x]) b (by simpa using hb) (by omega) (by simp; omega)
    rw [List.append_assoc, List.singleton_append, show ((a ++ [x]).length : Int) = (a.length : Int) + 1 by simp] at hi
    simp only [spec_l19Ok.l0]
    rw [if_pos (by simp; omega), if_pos (by omega), rdFilter_at, w64 (x := (a.length : Int) + 1) (by omega) (by omega), hi, specFilterOk_eq]
    simp only [obind, okFs]
    cases okF x.f0 x.f1 x.f2 <;> simp
theorem specPipeOk_eq (l : List S65) (hl : l.length ≤ 100000) (k : Nat) (hk : l.length < k) : spec_l19Ok.f k l = some (okPipe l) := by
  unfold spec_l19Ok.f okPipe
  have h0 := specPipeOk_l0 l.length k [] l rfl hk (by simpa using hl)
  rw [List.nil_append, show (([] : List S65).length : Int) = 0 from rfl] at h0
  rw [h0, Bool.and_comm]
theorem putU_byte (n : Int) (h0 : 0 ≤ n) (h1 : n ≤ 255) (k : Nat) (hk : 8 < k) : spec_l01PutUint.f k n 1 = some (strOfNums (bytesN n 1)) := by
  rw [specPutUint_eq n 1 (by omega) k hk]
  unfold putU
  rw [if_pos ⟨by omega, by omega, h0, fun _ => by show n / 256 ^ 1 = 0; omega⟩]
  rfl
theorem specEnc_l0 (B d : Nat) : ∀ (k : Nat) (a b : List S65) (s : ByteArray), b.length = d → d + 10 < k → a.length + d ≤ 100000 → okFs b = true → s.size + 3 * d ≤ B → B ≤ 1000000 →
    spec_EncodePipeline.l0 k (a ++ b) s a.length = some (encGo s b) := by
  induction d with
  | zero =>
    intro k a b s hb hk hl _ _ _
    obtain ⟨k, rfl⟩ : ∃ m, k = m + 1 := ⟨k - 1, by omega⟩
    obtain rfl : b = [] := List.eq_nil_of_length_eq_zero hb
    simp only [spec_EncodePipeline.l0]
    rw [if_neg (by simp)]
    rfl
  | succ d ih =>
    intro k a b s hb hk hl hok hB hB2
    obtain ⟨k, rfl⟩ : ∃ m, k = m + 1 := ⟨k - 1, by omega⟩
    match b, hb with
    | x :: b, hb =>
    simp only [okFs, Bool.and_eq_true] at hok
    obtain ⟨o1, o2, o3, o4⟩ := okF_bd _ _ _ hok.1
    have hi := ih k (a ++ [x]) b (s ++ triOf x) (by simpa using hb) (by omega) (by simp; omega) hok.2 (by rw [ByteArray.size_append, triOf_size]; omega) hB2
    rw [List.append_assoc, List.singleton_append, show ((a ++ [x]).length : Int) = (a.length : Int) + 1 by simp] at hi
    have ht : spec_l19Flag.f x.f2 = some (truthOf x.f2) := by
      unfold spec_l19Flag.f truthOf
      cases x.f2 <;> rfl
    have htb : 0 ≤ truthOf x.f2 ∧ truthOf x.f2 ≤ 255 := by unfold truthOf; split <;> omega
    simp only [spec_EncodePipeline.l0]
    rw [if_pos (by simp; omega), if_pos (by omega), rdFilter_at, w64 (x := (a.length : Int) + 1) (by omega) (by omega), putU_byte x.f0 (by omega) (by omega) k (by omega), putU_byte x.f1 (by omega) (by omega) k (by omega), ht]
    simp only [obind]
    rw [putU_byte _ htb.1 htb.2 k (by omega)]
    simp only [obind, ByteArray.size_append, size_ofNums, bytesN_length]
    rw [if_pos (by omega), if_pos (by omega), if_pos (by omega)]
    exact hi
theorem specEncPipe_eq (l : List S65) (hl : l.length ≤ 1000) (k : Nat) (hk : l.length + 20 < k) : spec_EncodePipeline.f k l = some (if okPipe l = true then encPipe l else ⟨#[]⟩) := by
  unfold spec_EncodePipeline.f
  rw [specPipeOk_eq l (by omega) k (by omega)]
  simp only [obind]
  by_cases h : okPipe l = true
  · rw [if_pos h, if_pos h]
    have h' := h
    unfold okPipe at h'
    simp only [Bool.and_eq_true, decide_eq_true_eq] at h'
    rw [putU_byte _ (by omega) (by omega) k (by omega)]
    simp only [obind]
    have h0 := specEnc_l0 100000 l.length k [] l (strOfNums (bytesN (l.length : Int) 1)) rfl (by omega) (by simpa using (by omega : l.length ≤ 100000)) h'.2 (by rw [size_ofNums, bytesN_length]; omega) (by omega)
    rw [List.nil_append, show (([] : List S65).length : Int) = 0 from rfl] at h0
    exact h0
  · rw [if_neg h, if_neg h]

/-! ### implPipeline -/
theorem implFilterOk_eq (a b : Int) (c : Bool) : impl_ValidFilter.f a b c = some (okF a b c) := by
  unfold impl_ValidFilter.f impl_isWidth.f okF
  simp only [within_eq, obind, decide_eq_true_eq]
  by_cases h1 : a = 1
  · rw [if_pos h1, if_pos h1]
    by_cases h : 1 ≤ b ∧ b ≤ 24
    · rw [if_pos h, decide_eq_true h]; simp
    · rw [if_neg h, decide_eq_false h]; simp
  · rw [if_neg h1, if_neg h1]
    by_cases h2 : a = 2
    · rw [if_pos h2, if_pos h2]
      by_cases k1 : b = 1
      · rw [if_pos k1]; simp [k1]
      · rw [if_neg k1]
        by_cases k2 : b = 2
        · rw [if_pos k2]; simp [k2]
        · rw [if_neg k2]
          by_cases k4 : b = 4
          · simp [k4]
          · simp [k1, k2, k4]
    · rw [if_neg h2, if_neg h2]
      by_cases h3 : a = 3
      · rw [if_pos h3, if_pos h3]; rfl
      · rw [if_neg h3, if_neg h3]
        by_cases h4 : a = 4
        · rw [if_pos h4, if_pos h4]; rfl
        · rw [if_neg h4, if_neg h4]
          by_cases h5 : a = 5
          · rw [if_pos h5, if_pos h5]
            by_cases k0 : b = 0
            · rw [if_pos k0]; simp [k0]
            · rw [if_neg k0]; simp [k0]
          · rw [if_neg h5, if_neg h5]
theorem badFilters_l0 (d : Nat) : ∀ (k : Nat) (a b : List S65), b.length = d → d < k → a.length + d ≤ 100000 →
    ∃ r, slices_IndexFunc_impl_ValidPipeline_1.l0 k (a ++ b) ((a ++ b).length : Int) a.length = some r ∧ decide (r ≥ 0) = !okFs b := by
  induction d with
  | zero =>
    intro k a b hb hk hl
    obtain ⟨k, rfl⟩ : ∃ m, k = m + 1 := ⟨k - 1, by omega⟩
    obtain rfl : b = [] := List.eq_nil_of_length_eq_zero hb
    simp only [slices_IndexFunc_impl_ValidPipeline_1.l0]
    rw [if_neg (by simp)]
    exact ⟨_, rfl, by simp [okFs]⟩
  | succ d ih =>
    intro k a b hb hk hl
    obtain ⟨k, rfl⟩ : ∃ m, k = m + 1 := ⟨k - 1, by omega⟩
    match b, hb with
    | x :: b, hb =>
    obtain ⟨r, hi, hr⟩ := ih k (a ++ [x]) b (by simpa using hb) (by omega) (by simp; omega)
    rw [List.append_assoc, List.singleton_append, show ((a ++ [x]).length : Int) = (a.length : Int) + 1 by simp] at hi
    simp only [slices_IndexFunc_impl_ValidPipeline_1.l0]
    rw [if_pos (by simp; omega), if_pos (by omega), if_pos (by simp; omega), rdFilter_at, w64 (x := (a.length : Int) + 1) (by omega) (by omega)]
    unfold impl_ValidPipeline_1.f
    rw [implFilterOk_eq]
    simp only [obind, okFs]
    cases hz : okF x.f0 x.f1 x.f2
    · rw [if_pos (by rfl)]
      exact ⟨_, rfl, by simp⟩
    · rw [if_neg (by simp)]
      exact ⟨r, hi, by rw [hr]; simp⟩
theorem implValidPipe_eq (l : List S65) (hl : l.length ≤ 100000) (k : Nat) (hk : l.length < k) : impl_ValidPipeline.f k l = some (okPipe l) := by
  unfold impl_ValidPipeline.f okPipe
  obtain ⟨r, h0, hr⟩ := badFilters_l0 l.length k [] l rfl hk (by simpa using hl)
  rw [List.nil_append, show (([] : List S65).length : Int) = 0 from rfl] at h0
  have hc : slices_ContainsFunc_impl_ValidPipeline_1.f k l = some (!okFs l) := by
    unfold slices_ContainsFunc_impl_ValidPipeline_1.f slices_IndexFunc_impl_ValidPipeline_1.f
    rw [h0]
    simp only [obind]
    rw [hr]
  rw [hc]
  simp only [obind]
  by_cases h3 : (l.length : Int) ≤ 4
  · rw [if_pos h3, decide_eq_true (show l.length ≤ 4 by omega)]; simp
  · rw [if_neg h3, decide_eq_false (show ¬ l.length ≤ 4 by omega)]; simp
theorem implEnc_l0 (N : Nat) (d : Nat) : ∀ (k : Nat) (a b : List S65) (s : ByteArray), b.length = d → d + 10 < k → a.length + d = N → N ≤ 100000 → s.size + 3 * d ≤ 1000000 →
    impl_encodePipeline.l0 k s (a ++ b) N a.length = some (encGo s b) := by
  induction d with
  | zero =>
    intro k a b s hb hk hl _ _
    obtain ⟨k, rfl⟩ : ∃ m, k = m + 1 := ⟨k - 1, by omega⟩
    obtain rfl : b = [] := List.eq_nil_of_length_eq_zero hb
    simp only [impl_encodePipeline.l0]
    rw [if_neg (by omega)]
    rfl
  | succ d ih =>
    intro k a b s hb hk hl hN hB
    obtain ⟨k, rfl⟩ : ∃ m, k = m + 1 := ⟨k - 1, by omega⟩
    match b, hb with
    | x :: b, hb =>
    have hi := ih k (a ++ [x]) b (s ++ triOf x) (by simpa using hb) (by omega) (by simp; omega) hN (by rw [ByteArray.size_append, triOf_size]; omega)
    rw [List.append_assoc, List.singleton_append, show ((a ++ [x]).length : Int) = (a.length : Int) + 1 by simp] at hi
    have ht : impl_truth.f x.f2 = some (truthOf x.f2) := by
      unfold impl_truth.f truthOf
      cases x.f2 <;> rfl
    simp only [impl_encodePipeline.l0]
    rw [if_pos (by omega), if_pos (by omega), if_pos (by simp; omega), rdFilter_at, w64 (x := (a.length : Int) + 1) (by omega) (by omega), putBytes_eq x.f0 1 (by omega) (by omega) k (by omega), putBytes_eq x.f1 1 (by omega) (by omega) k (by omega), ht]
    simp only [obind]
    rw [putBytes_eq _ 1 (by omega) (by omega) k (by omega)]
    have e1 : (1 : Int).toNat = 1 := rfl
    simp only [obind, ByteArray.size_append, size_ofNums, bytesN_length, e1]
    rw [if_pos (by omega), if_pos (by omega), if_pos (by omega)]
    exact hi
theorem implEncPipe_eq (l : List S65) (hl : l.length ≤ 1000) (k : Nat) (hk : l.length + 20 < k) : impl_encodePipeline.f k l = some (encPipe l) := by
  unfold impl_encodePipeline.f encPipe
  rw [putBytes_eq _ 1 (by omega) (by omega) k (by omega)]
  simp only [obind]
  have h0 := implEnc_l0 l.length l.length k [] l (strOfNums (bytesN (l.length : Int) (1 : Int).toNat)) rfl (by omega) (by simp) (by omega) (by rw [size_ofNums, bytesN_length]; have : (1 : Int).toNat = 1 := rfl; omega)
  rw [List.nil_append, show (([] : List S65).length : Int) = 0 from rfl] at h0
  exact h0

/-! ### eqFilter -/
theorem eqFilterS_self (l : List S65) (hl : l.length ≤ 1099511627776) (d : Nat) : ∀ (k i : Nat), i + d = l.length → d < k → laws_eqFilterS.l0 k l l i = some true := by
  induction d with
  | zero =>
    intro k i hi hk
    obtain ⟨k, rfl⟩ : ∃ m, k = m + 1 := ⟨k - 1, by omega⟩
    simp only [laws_eqFilterS.l0]
    rw [if_neg (by omega)]
  | succ d ih =>
    intro k i hi hk
    obtain ⟨k, rfl⟩ : ∃ m, k = m + 1 := ⟨k - 1, by omega⟩
    simp only [laws_eqFilterS.l0]
    rw [if_pos (by omega), if_pos (by omega), if_pos (by omega), w64 (x := (i : Int) + 1) (by omega) (by omega)]
    unfold laws_eqFilter.f
    simp only [if_true, obind, bne_self_eq_false, Bool.false_eq_true, if_false]
    exact ih k (i + 1) (by omega) (by omega)
theorem eqFilterS_refl (l : List S65) (hl : l.length ≤ 1099511627776) (k : Nat) (hk : l.length < k) : laws_eqFilterS.f k l l = some true := by
  unfold laws_eqFilterS.f
  rw [if_pos rfl]
  exact eqFilterS_self l hl l.length k 0 (by omega) hk

/-! ### markFilter -/
def filtersFrom : Int → Nat → List S65
  | _, 0 => []
  | m, d + 1 => (⟨m, m + 1, (Int.tmod (m + 1 + 1) 3 == 0)⟩ : S65) :: filtersFrom (m + 1 + 1 + 1) d
theorem filtersFrom_length : ∀ (m : Int) (d : Nat), (filtersFrom m d).length = d
  | _, 0 => rfl
  | m, d + 1 => by rw [filtersFrom, List.length_cons, filtersFrom_length]
theorem markFilterS_l0 (d : Nat) : ∀ (k : Nat) (a b : List S65) (m : Int), b.length = d → d + 0 < k → a.length + d ≤ 1099511627776 → 0 ≤ m → m + 3 * d ≤ 9223372036854775000 →
    laws_markFilterS.l0 k (a ++ b) m a.length = some (m + 3 * d, a ++ filtersFrom m d) := by
  induction d with
  | zero =>
    intro k a b m hb hk hl h0 h1
    obtain ⟨k, rfl⟩ : ∃ m, k = m + 1 := ⟨k - 1, by omega⟩
    obtain rfl : b = [] := List.eq_nil_of_length_eq_zero hb
    simp only [laws_markFilterS.l0]
    rw [if_neg (by simp)]
    simp [filtersFrom]
  | succ d ih =>
    intro k a b m hb hk hl h0 h1
    obtain ⟨k, rfl⟩ : ∃ m, k = m + 1 := ⟨k - 1, by omega⟩
    match b, hb with
    | x :: b, hb =>
    have hset : ∀ (y z : S65), (a ++ y :: b).set (a.length : Int).toNat z = a ++ z :: b := fun y z => by simp
    have hrd : ∀ (y : S65), rd_T65 (a ++ y :: b) a.length = y := fun y => by simp [rd_T65]
    have w1 : wrap64 (m + 1) = m + 1 := w64 (by omega) (by omega)
    have w2 : wrap64 (m + 1 + 1) = m + 1 + 1 := w64 (by omega) (by omega)
    have w3 : wrap64 (m + 1 + 1 + 1) = m + 1 + 1 + 1 := w64 (by omega) (by omega)
    have wl : wrap64 ((a.length : Int) + 1) = (a.length : Int) + 1 := w64 (by omega) (by omega)
    have c1 : (a.length : Int) < ((a ++ x :: b).length : Int) := by simp; omega
    have c2 : 0 ≤ (a.length : Int) := by omega
    simp only [laws_markFilterS.l0, obind, if_pos c1, if_pos c2, hset, hrd, w1, w2, w3, wl]
    have := ih k (a ++ [(⟨m, m + 1, (Int.tmod (m + 1 + 1) 3 == 0)⟩ : S65)]) b (m + 1 + 1 + 1) (by simpa using hb) (by omega) (by simp; omega) (by omega) (by omega)
    simp only [List.append_assoc, List.singleton_append, List.length_append, List.length_singleton, Int.natCast_add, Int.cast_ofNat_Int] at this
    rw [this, filtersFrom]
    congr 2
    omega
theorem heldFilterS_l0 (d : Nat) : ∀ (k : Nat) (a : List S65) (m : Int), d + 0 < k → a.length + d ≤ 1099511627776 → 0 ≤ m → m + 3 * d ≤ 9223372036854775000 →
    laws_heldFilterS.l0 k (a ++ filtersFrom m d) m a.length = some (m + 3 * d) := by
  induction d with
  | zero =>
    intro k a m hk hl h0 h1
    obtain ⟨k, rfl⟩ : ∃ m, k = m + 1 := ⟨k - 1, by omega⟩
    simp only [laws_heldFilterS.l0]
    rw [if_neg (by simp [filtersFrom])]
    simp
  | succ d ih =>
    intro k a m hk hl h0 h1
    obtain ⟨k, rfl⟩ : ∃ m, k = m + 1 := ⟨k - 1, by omega⟩
    rw [filtersFrom]
    have hrd : rd_T65 (a ++ (⟨m, m + 1, (Int.tmod (m + 1 + 1) 3 == 0)⟩ : S65) :: filtersFrom (m + 1 + 1 + 1) d) a.length = (⟨m, m + 1, (Int.tmod (m + 1 + 1) 3 == 0)⟩ : S65) := by simp [rd_T65]
    have w1 : wrap64 (m + 1) = m + 1 := w64 (by omega) (by omega)
    have w2 : wrap64 (m + 1 + 1) = m + 1 + 1 := w64 (by omega) (by omega)
    have w3 : wrap64 (m + 1 + 1 + 1) = m + 1 + 1 + 1 := w64 (by omega) (by omega)
    have wl : wrap64 ((a.length : Int) + 1) = (a.length : Int) + 1 := w64 (by omega) (by omega)
    have c1 : (a.length : Int) < ((a ++ (⟨m, m + 1, (Int.tmod (m + 1 + 1) 3 == 0)⟩ : S65) :: filtersFrom (m + 1 + 1 + 1) d).length : Int) := by simp; omega
    have c2 : 0 ≤ (a.length : Int) := by omega
    simp only [laws_heldFilterS.l0, if_pos c1, if_pos c2, hrd, w1, w2, w3, wl, if_true, bne_self_eq_false, Bool.false_eq_true, if_false]
    have := ih k (a ++ [(⟨m, m + 1, (Int.tmod (m + 1 + 1) 3 == 0)⟩ : S65)]) (m + 1 + 1 + 1) (by omega) (by simp; omega) (by omega) (by omega)
    simp only [List.append_assoc, List.singleton_append, List.length_append, List.length_singleton, Int.natCast_add, Int.cast_ofNat_Int] at this
    rw [this]
    congr 1
    omega
theorem markFilterS_f (l : List S65) (hl : l.length ≤ 1099511627776) (k : Nat) (hk : l.length + 0 < k) : laws_markFilterS.f k l 1 = some (1 + 3 * (l.length : Int), filtersFrom 1 l.length) := by
  unfold laws_markFilterS.f
  exact markFilterS_l0 l.length k [] l 1 rfl hk (by simpa using hl) (by omega) (by omega)
theorem heldFilterS_f (n : Nat) (hl : n ≤ 1099511627776) (k : Nat) (hk : n + 0 < k) : laws_heldFilterS.f k (filtersFrom 1 n) 1 = some (1 + 3 * (n : Int)) := by
  unfold laws_heldFilterS.f
  exact heldFilterS_l0 n k [] 1 hk (by simpa using hl) (by omega) (by omega)

def filtAt (s : ByteArray) (i : Nat) : S65 := ⟨bt s (1 + 3 * i : Nat), bt s (2 + 3 * i : Nat), bt s (3 + 3 * i : Nat) == 1⟩
def filtsTo (s : ByteArray) (m : Nat) : List S65 := (List.range m).map (filtAt s)
theorem filtsTo_length (s : ByteArray) (m : Nat) : (filtsTo s m).length = m := by simp [filtsTo]
theorem filtsTo_succ (s : ByteArray) (m : Nat) : filtsTo s (m + 1) = filtsTo s m ++ [filtAt s m] := by simp [filtsTo, List.range_succ]
def noPipe : List S65 × Bool := ([], false)
def finPipe (s : ByteArray) (l : List S65) : List S65 × Bool := if okPipe l = true ∧ (encPipe l).toList = s.toList then (l, true) else noPipe
theorem ba_toList {s t : ByteArray} (h : s.toList = t.toList) : s = t := by
  rw [Go.ByteArray.toList_eq, Go.ByteArray.toList_eq] at h
  exact ByteArray.ext (Array.ext' h)
theorem spec_fin (s : ByteArray) (m : Nat) (hm : m ≤ 10) (k : Nat) (hk : 40 < k) :
    (if s.toList = ([] : List UInt8) then (some (([] : List (S65)), false)) else ((spec_EncodePipeline.f k (filtsTo s m)).bind fun t128 => (if t128.toList = s.toList then (some (filtsTo s m, true)) else (some (([] : List (S65)), false))))) = some (finPipe s (filtsTo s m)) := by
  have hl := filtsTo_length s m
  rw [specEncPipe_eq _ (by omega) k (by omega)]
  simp only [obind]
  unfold finPipe
  by_cases h0 : s.toList = ([] : List UInt8)
  · rw [if_pos h0]
    have : ¬ (okPipe (filtsTo s m) = true ∧ (encPipe (filtsTo s m)).toList = s.toList) := by
      intro h
      have h1 := encPipe_size (filtsTo s m)
      rw [h0, toList_nil] at h
      omega
    rw [if_neg this]
    rfl
  · rw [if_neg h0]
    by_cases h1 : okPipe (filtsTo s m) = true
    · rw [if_pos h1]
      by_cases h2 : (encPipe (filtsTo s m)).toList = s.toList
      · rw [if_pos h2, if_pos ⟨h1, h2⟩]
      · rw [if_neg h2, if_neg (fun h => h2 h.2)]
        rfl
    · rw [if_neg h1]
      have e0 : (⟨#[]⟩ : ByteArray).toList = ([] : List UInt8) := (toList_nil _).2 rfl
      have : ¬ ((⟨#[]⟩ : ByteArray).toList = s.toList) := by
        intro h
        rw [e0] at h
        exact h0 (Eq.symm h)
      rw [if_neg this, if_neg (fun h => h1 h.1)]
      rfl
theorem spec_pipe (s : ByteArray) (_ : s.size ≤ 1048576) (d : Nat) : ∀ (k m : Nat), m + d = 5 → m ≤ 5 → (m = 0 ∨ 1 + 3 * m ≤ s.size) → d + 50 < k →
    ∃ m', m' ≤ 5 ∧ (m' = 5 ∨ s.size < 4 + 3 * m') ∧ (m' = 0 ∨ 1 + 3 * m' ≤ s.size) ∧ spec_DecodePipeline.l0 k s (filtsTo s m) (1 + 3 * m : Nat) = some (finPipe s (filtsTo s m')) := by
  induction d with
  | zero =>
    intro k m hm hm5 hsz hk
    obtain ⟨k, rfl⟩ : ∃ m, k = m + 1 := ⟨k - 1, by omega⟩
    obtain rfl : m = 5 := by omega
    refine ⟨5, by omega, .inl rfl, hsz, ?_⟩
    simp only [spec_DecodePipeline.l0]
    rw [filtsTo_length, w64 (x := ((1 + 3 * 5 : Nat) : Int) + 2) (by omega) (by omega)]
    have h5 : ¬ (((5 : Nat) : Int) ≤ 4) := by omega
    rw [if_neg h5, spec_fin s 5 (by omega) k (by omega)]
    split <;> rfl
  | succ d ih =>
    intro k m hm hm5 hsz hk
    obtain ⟨k, rfl⟩ : ∃ m, k = m + 1 := ⟨k - 1, by omega⟩
    simp only [spec_DecodePipeline.l0]
    rw [filtsTo_length, w64 (x := ((1 + 3 * m : Nat) : Int) + 2) (by omega) (by omega)]
    by_cases h : ((1 + 3 * m : Nat) : Int) + 2 < s.size
    · obtain ⟨p0, p1⟩ := bt_range s (1 + 3 * m : Nat)
      obtain ⟨q0, q1⟩ := bt_range s (2 + 3 * m : Nat)
      rw [if_pos h, if_pos (by omega), if_pos (by omega), if_pos (by omega), w64 (x := ((1 + 3 * m : Nat) : Int) + 1) (by omega) (by omega), if_pos (by omega), if_pos (by omega), if_pos (by omega), if_pos (by omega)]
      rw [show ((1 + 3 * m : Nat) : Int) + 1 = (2 + 3 * m : Nat) by omega, show ((1 + 3 * m : Nat) : Int) + 2 = (3 + 3 * m : Nat) by omega, w64 (x := bt s (1 + 3 * m : Nat)) (by omega) (by omega), w64 (x := bt s (2 + 3 * m : Nat)) (by omega) (by omega), w64 (x := ((1 + 3 * m : Nat) : Int) + 3) (by omega) (by omega), show ((1 + 3 * m : Nat) : Int) + 3 = (1 + 3 * (m + 1) : Nat) by omega]
      obtain ⟨m', a1, a2, a3, a4⟩ := ih k (m + 1) (by omega) (by omega) (by omega) (by omega)
      rw [filtsTo_succ] at a4
      exact ⟨m', a1, a2, a3, a4⟩
    · rw [if_neg h, spec_fin s m (by omega) k (by omega)]
      exact ⟨m, hm5, by omega, hsz, rfl⟩
theorem impl_bad (s r : ByteArray) (n : Int) (acc : List S65) (k : Nat) (hk : 2 ≤ k) : impl_DecodePipeline.l0 k s acc n r true = some noPipe := by
  obtain ⟨k, rfl⟩ : ∃ m, k = m + 2 := ⟨k - 2, by omega⟩
  simp [impl_DecodePipeline.l0, impl_DecodePipeline.j1, noPipe]
theorem impl_pipe (s : ByteArray) (hs : s.size ≤ 1048576) (n : Nat) : ∀ (k m : Nat), 1 + 3 * m ≤ s.size → m + n ≤ 300 → 2 * n + 500 < k →
    impl_DecodePipeline.l0 k s (filtsTo s m) n (s.extract (1 + 3 * m) s.size) false = some (if 1 + 3 * (m + n) ≤ s.size then finPipe s (filtsTo s (m + n)) else noPipe) := by
  induction n with
  | zero =>
    intro k m hm hn hk
    obtain ⟨k, rfl⟩ : ∃ m, k = m + 2 := ⟨k - 2, by omega⟩
    have hz0 : ¬ (((0 : Nat) : Int) > 0) := by omega
    have hl := filtsTo_length s m
    simp only [impl_DecodePipeline.l0, impl_DecodePipeline.j1, if_neg hz0, Bool.false_eq_true, if_false]
    rw [implValidPipe_eq _ (by omega) k (by omega), implEncPipe_eq _ (by omega) k (by omega), Nat.add_zero, if_pos hm]
    simp only [obind]
    unfold finPipe
    by_cases h1 : okPipe (filtsTo s m) = true
    · rw [if_pos h1]
      by_cases h2 : (encPipe (filtsTo s m)).toList = s.toList
      · rw [if_pos h2, if_pos ⟨h1, h2⟩]
      · rw [if_neg h2, if_neg (fun h => h2 h.2)]; rfl
    · rw [if_neg h1, if_neg (fun h => h1 h.1)]; rfl
  | succ n ih =>
    intro k m hm hn hk
    obtain ⟨k, rfl⟩ : ∃ m, k = m + 2 := ⟨k - 2, by omega⟩
    have e1 : wrap64 (((n + 1 : Nat) : Int) - 1) = n := by rw [w64] <;> omega
    have hp : ((n + 1 : Nat) : Int) > 0 := by omega
    have hl := filtsTo_length s m
    obtain ⟨v1, i1, b1, hi1, _, _, t1, d1, y1, n1⟩ := dec_byte s (1 + 3 * m) false (by omega) hm
    obtain ⟨v2, i2, b2, hi2, _, _, t2, d2, y2, n2⟩ := dec_byte s i1 b1 (by omega) hi1
    obtain ⟨v3, i3, b3, hi3, _, _, t3, d3, y3, n3⟩ := dec_byte s i2 b2 (by omega) hi2
    simp only [impl_DecodePipeline.l0, impl_DecodePipeline.j1, if_pos hp, Bool.not_false, if_true, e1, d1 k (by omega), d2 k (by omega), d3 k (by omega), obind]
    rw [if_pos (by omega)]
    by_cases hc : 1 + 3 * (m + 1) ≤ s.size
    · obtain ⟨rfl, rfl, rfl⟩ := y1 (by omega)
      obtain ⟨rfl, rfl, rfl⟩ := y2 (by omega)
      obtain ⟨rfl, rfl, rfl⟩ := y3 (by omega)
      have hi := ih k (m + 1) hc (by omega) (by omega)
      rw [filtsTo_succ] at hi
      rw [show m + (n + 1) = m + 1 + n by omega, ← hi]
      rw [show 1 + 3 * (m + 1) = 1 + 3 * m + 1 + 1 + 1 by omega]
      unfold filtAt
      rw [show 1 + 3 * m + 1 = 2 + 3 * m by omega, show 2 + 3 * m + 1 = 3 + 3 * m by omega]
    · have hb : b3 = true := by
        by_cases c1 : 1 + 3 * m < s.size
        · obtain ⟨_, rfl, _⟩ := y1 c1
          by_cases c2 : 1 + 3 * m + 1 < s.size
          · obtain ⟨_, rfl, _⟩ := y2 c2
            exact (n3 (by omega)).2.2
          · exact t3 (n2 (by omega)).2.2
        · exact t3 (t2 (n1 (by omega)).2.2)
      subst hb
      rw [impl_bad _ _ _ _ _ (by omega), if_neg (by omega)]
theorem pipe_any (s : ByteArray) (hs : s.size ≤ 1048576) (k : Nat) (hk : 1500 ≤ k) : ∃ r, spec_DecodePipeline.f k s = some r ∧ impl_DecodePipeline.f k s = some r ∧ r.1.length ≤ 300 := by
  unfold spec_DecodePipeline.f impl_DecodePipeline.f
  obtain ⟨m', a1, a2, a3, a4⟩ := spec_pipe s hs 5 k 0 (by omega) (by omega) (.inl rfl) (by omega)
  have e0 : filtsTo s 0 = [] := rfl
  rw [e0, show ((1 + 3 * 0 : Nat) : Int) = 1 from rfl] at a4
  obtain ⟨v, i, b, hi, v0, v1, _, d, y, nn⟩ := dec_byte s 0 false (by omega) (by omega)
  have d' := d k (by omega)
  rw [extract_whole] at d'
  rw [a4, d']
  simp only [obind]
  by_cases h0 : 0 < s.size
  · obtain ⟨rfl, rfl, rfl⟩ := y h0
    obtain ⟨n, hn⟩ := Int.eq_ofNat_of_zero_le v0
    have him := impl_pipe s hs n k 0 (by omega) (by omega) (by omega)
    rw [e0, show 1 + 3 * 0 = 1 from rfl, ← hn] at him
    rw [show 0 + 1 = 1 from rfl, him, Nat.zero_add]
    refine ⟨_, rfl, ?_, ?_⟩
    · congr 1
      by_cases hc : okPipe (filtsTo s m') = true ∧ (encPipe (filtsTo s m')).toList = s.toList
      · have he := ba_toList hc.2
        have hsz := encPipe_size (filtsTo s m')
        have hb := encPipe_bt0 (filtsTo s m')
        rw [he, filtsTo_length] at hsz hb
        have hok := hc.1
        unfold okPipe at hok
        rw [filtsTo_length] at hok
        simp only [Bool.and_eq_true, decide_eq_true_eq] at hok
        have hnm : n = m' := by
          have : ((0 : Nat) : Int) = 0 := rfl
          rw [this] at hn
          omega
        rw [hnm, if_pos (by omega)]
      · have hf : finPipe s (filtsTo s m') = noPipe := by unfold finPipe; rw [if_neg hc]
        rw [hf]
        by_cases h1 : 1 + 3 * n ≤ s.size
        · rw [if_pos h1]
          unfold finPipe
          by_cases hc2 : okPipe (filtsTo s n) = true ∧ (encPipe (filtsTo s n)).toList = s.toList
          · exfalso
            have he := ba_toList hc2.2
            have hsz := encPipe_size (filtsTo s n)
            rw [he, filtsTo_length] at hsz
            have hok := hc2.1
            unfold okPipe at hok
            rw [filtsTo_length] at hok
            simp only [Bool.and_eq_true, decide_eq_true_eq] at hok
            have : n = m' := by omega
            subst this
            exact hc hc2
          · rw [if_neg hc2]
        · rw [if_neg h1]
    · unfold finPipe
      split
      · rw [filtsTo_length]; omega
      · exact Nat.zero_le _
  · obtain ⟨_, _, rfl⟩ := nn (by omega)
    rw [impl_bad _ _ _ _ _ (by omega)]
    have hf : finPipe s (filtsTo s m') = noPipe := by
      unfold finPipe
      rw [if_neg]
      intro h
      have he := ba_toList h.2
      have hsz := encPipe_size (filtsTo s m')
      rw [he] at hsz
      omega
    exact ⟨_, rfl, by rw [hf], by rw [hf]; exact Nat.zero_le _⟩
theorem FnExactDecodePipeline : laws_FnExactDecodePipeline.Pure := by
  intro s _
  refine ⟨5000, ?_⟩
  unfold laws_FnExactDecodePipeline.f
  by_cases hs : (s.size : Int) > 1048576
  · rw [if_pos hs]
  · rw [if_neg hs]
    obtain ⟨⟨l, ok⟩, h1, h2, h3⟩ := pipe_any s (by omega) 5000 (by omega)
    obtain ⟨⟨l', ok'⟩, h1', h2', _⟩ := pipe_any s (by omega) 4999 (by omega)
    have hm := at_rounds (g := fun k => impl_DecodePipeline.f k s) (fun k => impl_DecodePipeline.mono s k) (show 4999 ≤ 5000 by omega) h2'
    obtain ⟨rfl, rfl⟩ : l' = l ∧ ok' = ok := by
      have := hm.symm.trans h2
      simpa using this
    simp only at h3
    have hneg : ¬ (1 + 3 * (l'.length : Int) < 0) := by omega
    have j1 : laws_FnExactDecodePipeline.j1 4999 (filtersFrom 1 l'.length) (1 + 3 * (l'.length : Int)) false = some true := by
      simp only [laws_FnExactDecodePipeline.j1, Bool.false_eq_true, if_false, heldFilterS_f l'.length (by omega) 4998 (by omega), obind, if_neg hneg, if_true]
    have j0 : laws_FnExactDecodePipeline.j0 5000 s l' ok' l' false = some true := by
      simp only [laws_FnExactDecodePipeline.j0, Bool.false_eq_true, if_false, markFilterS_f l' (by omega) 4999 (by omega), heldFilterS_f l'.length (by omega) 4999 (by omega), h2', eqFilterS_refl l' (by omega) 4999 (by omega), obind, if_neg hneg, if_true, bne_self_eq_false]
      exact j1
    simp only [h1, h2, obind, eqFilterS_refl l' (by omega) 5000 (by omega), if_true, bne_self_eq_false]
    exact j0

end Go.Proofs.Ytlcbbiiohhplfab.Pure
