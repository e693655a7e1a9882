/- DropName of the program answers as the reference's, for all arguments. -/
import Derived.Test.YtlcbbiiohhplfaaKit
import Derived.Test.YtlcbbiiohhplfaaMFnExactDropNamex6
import Derived.Test.YtlcbbiiohhplfaaStmFnExactDropName
namespace Go.Proofs.Ytlcbbiiohhplfaa.Pure
open Go.RowKit Go.Proofs.Ytlcbbiiohhplfaa.PFnExactDropName Go.Proofs.YtlcbbiiohhplfaaW.PrintWords Go.Proofs.YtlcbbiiohhplfaaW.PrintLast Go.Proofs.Ytlcbbiiohhplfaa.Kit

/-! ### within -/
theorem within_eq (a b c : Int) : impl_within.f a b c = some (decide (b ≤ a ∧ a ≤ c)) := by
  unfold impl_within.f
  by_cases h : b ≤ a
  · rw [if_pos h]; simp [h]
  · rw [if_neg h]; simp [h]

/-! ### l00In -/
theorem l00In_eq (a b c : Int) : spec_l00In.f a b c = some (decide (b ≤ a ∧ a ≤ c)) := by
  unfold spec_l00In.f
  by_cases h : b ≤ a
  · rw [if_pos h]; simp [h]
  · rw [if_neg h]; simp [h]

/-! ### nameModel -/
def isLetter (c : Int) : Bool := (decide (65 ≤ c) && decide (c ≤ 90)) || (decide (97 ≤ c) && decide (c ≤ 122))
def isNameCh (c : Int) : Bool := isLetter c || (decide (48 ≤ c) && decide (c ≤ 57)) || decide (c = 95)
def allFrom (s : ByteArray) (i : Nat) : Nat → Bool
  | 0 => true
  | d + 1 => isNameCh (bt s i) && allFrom s (i + 1) d
/-- A name: one to twelve letters, digits and underscores, a letter first. -/
def isNm (s : ByteArray) : Bool := decide (1 ≤ s.size) && decide (s.size ≤ 12) && isLetter (bt s 0) && allFrom s 1 (s.size - 1)

/-! ### heapModel -/
def okNames : List ByteArray → Bool
  | [] => true
  | s :: l => (decide (s.size = 0) || isNm s) && okNames l
/-- A valid heap's names. -/
def okHeap (l : List ByteArray) : Bool := decide (l.length ≤ 30) && (decide (l.length = 0) || decide ((rdOf ByteArray.empty l (l.length - 1)).size ≠ 0)) && okNames l
theorem okNames_app (a b : List ByteArray) : okNames (a ++ b) = (okNames a && okNames b) := by
  induction a with
  | nil => simp [okNames]
  | cons x a ih => simp [okNames, ih, Bool.and_assoc]
theorem rdOf_at {α : Type} (z : α) (a : List α) (x : α) (b : List α) : rdOf z (a ++ x :: b) a.length = x := by simp [rdOf]

/-! ### implIsName -/
/-- What a round of IsName's loop comes to. -/
theorem implIsName_round (k : Nat) (s : ByteArray) (i : Nat) (hi : i < s.size) (hs : s.size ≤ 140737488351232) :
    impl_IsName.l0 (k + 1) s s.size i = if isLetter (bt s i) || (decide (i ≠ 0) && isNameCh (bt s i)) then impl_IsName.l0 k s s.size ((i : Int) + 1) else some false := by
  obtain ⟨b0, b1⟩ := bt_range s i
  simp only [impl_IsName.l0]
  rw [if_pos (by omega), if_pos (by omega), if_pos (by omega), w64 (x := (i : Int) + 1) (by omega) (by omega)]
  generalize bt s i = c at *
  generalize impl_IsName.l0 k s s.size ((i : Int) + 1) = R
  have hz : ((i : Int) = 0) ↔ (i = 0) := by omega
  unfold isNameCh isLetter
  by_cases z : i = 0
  · simp only [z, Int.natCast_zero, if_true]
    by_cases h1 : c ≥ 65 <;> by_cases h2 : c ≤ 90 <;> by_cases h3 : c ≥ 97 <;> by_cases h4 : c ≤ 122 <;> simp [h1, h2, h3, h4] <;> omega
  · have z' : ¬ ((i : Int) = 0) := by omega
    simp only [if_neg z']
    by_cases h1 : c ≥ 65 <;> by_cases h2 : c ≤ 90 <;> by_cases h3 : c ≥ 97 <;> by_cases h4 : c ≤ 122 <;> by_cases h5 : c < 48 <;> by_cases h6 : c > 57 <;> by_cases h7 : c = 95 <;> simp [h1, h2, h3, h4, h5, h6, h7, z] <;> omega
theorem implIsName_l0 (s : ByteArray) (hs : s.size ≤ 140737488351232) (R : Bool) (d : Nat) : ∀ (k i : Nat), 1 ≤ i → i + d = s.size → d < k →
    (∀ j : Nat, 0 < j → impl_IsName.l0 j s s.size s.size = some R) → impl_IsName.l0 k s s.size i = some (allFrom s i d && R) := by
  induction d with
  | zero =>
    intro k i h1 hi hk hR
    rw [show i = s.size by omega, hR k (by omega)]
    simp [allFrom]
  | succ d ih =>
    intro k i h1 hi hk hR
    obtain ⟨k, rfl⟩ : ∃ m, k = m + 1 := ⟨k - 1, by omega⟩
    have hn := ih k (i + 1) (by omega) (by omega) (by omega) hR
    rw [show ((i + 1 : Nat) : Int) = (i : Int) + 1 by omega] at hn
    have hz : i ≠ 0 := by omega
    have hc : (isLetter (bt s i) || (decide (i ≠ 0) && isNameCh (bt s i))) = isNameCh (bt s i) := by
      unfold isNameCh
      cases isLetter (bt s i) <;> simp [hz]
    rw [implIsName_round k s i (by omega) hs, hn, hc]
    simp only [allFrom]
    cases isNameCh (bt s i) <;> simp
theorem implIsName_end (s : ByteArray) (j : Nat) (hj : 0 < j) : impl_IsName.l0 j s s.size s.size = some (decide (1 ≤ s.size) && decide (s.size ≤ 12)) := by
  obtain ⟨j, rfl⟩ : ∃ m, j = m + 1 := ⟨j - 1, by omega⟩
  simp only [impl_IsName.l0]
  rw [if_neg (by omega)]
  by_cases h1 : 1 ≤ s.size
  · rw [if_pos (by omega)]
    congr 1
    by_cases h2 : s.size ≤ 12
    · rw [decide_eq_true (show (s.size : Int) ≤ 12 by omega)]; simp [h1, h2]
    · rw [decide_eq_false (show ¬ (s.size : Int) ≤ 12 by omega)]; simp [h1, h2]
  · rw [if_neg (by omega)]; simp [h1]
theorem implIsName_eq (s : ByteArray) (hs : s.size ≤ 140737488351232) (k : Nat) (hk : s.size + 1 < k) : impl_IsName.f k s = some (isNm s) := by
  unfold impl_IsName.f isNm
  by_cases h0 : s.size = 0
  · have := implIsName_end s k (by omega)
    rw [h0] at this
    rw [h0]
    rw [show ((0 : Nat) : Int) = 0 from rfl] at *
    rw [this]
    simp
  · obtain ⟨k, rfl⟩ : ∃ m, k = m + 1 := ⟨k - 1, by omega⟩
    have hr := implIsName_round k s 0 (by omega) hs
    rw [show ((0 : Nat) : Int) = 0 from rfl] at hr
    rw [hr]
    have hn := implIsName_l0 s hs _ (s.size - 1) k 1 (by omega) (by omega) (by omega) (implIsName_end s)
    rw [show ((1 : Nat) : Int) = 0 + 1 by omega] at hn
    rw [hn]
    have h1 : 1 ≤ s.size := by omega
    cases isLetter (bt s 0) <;> cases allFrom s 1 (s.size - 1) <;> by_cases h2 : s.size ≤ 12 <;> simp [h1, h2]

/-! ### implValidHeap -/
theorem badName_eq (s : ByteArray) (hs : s.size ≤ 140737488351232) (k : Nat) (hk : s.size + 1 < k) : impl_ValidHeap_1.f k s = some (!(decide (s.size = 0) || isNm s)) := by
  unfold impl_ValidHeap_1.f
  by_cases hz : s.size = 0
  · rw [if_pos ((toList_nil s).2 hz)]; simp [hz]
  · rw [if_neg (fun h => hz ((toList_nil s).1 h)), implIsName_eq s hs k hk]
    simp [hz]
theorem badNames_l0 (B d : Nat) : ∀ (k : Nat) (a b : List ByteArray), b.length = d → d + B + 5 < k → a.length + d ≤ 1099511627776 → (∀ s ∈ b, s.size ≤ B) → B ≤ 140737488351232 →
    ∃ r, slices_IndexFunc_impl_ValidHeap_1.l0 k (a ++ b) ((a ++ b).length : Int) a.length = some r ∧ decide (r ≥ 0) = !okNames b := by
  induction d with
  | zero =>
    intro k a b hb hk hl hs hB
    obtain ⟨k, rfl⟩ : ∃ m, k = m + 1 := ⟨k - 1, by omega⟩
    obtain rfl : b = [] := List.eq_nil_of_length_eq_zero hb
    simp only [slices_IndexFunc_impl_ValidHeap_1.l0]
    rw [if_neg (by simp)]
    exact ⟨_, rfl, by simp [okNames]⟩
  | succ d ih =>
    intro k a b hb hk hl hs hB
    obtain ⟨k, rfl⟩ : ∃ m, k = m + 1 := ⟨k - 1, by omega⟩
    match b, hb with
    | x :: b, hb =>
    obtain ⟨r, hi, hr⟩ := ih k (a ++ [x]) b (by simpa using hb) (by omega) (by simp; omega) (fun s h => hs s (List.mem_cons_of_mem _ h)) hB
    rw [List.append_assoc, List.singleton_append, show ((a ++ [x]).length : Int) = (a.length : Int) + 1 by simp] at hi
    have hx := hs x (List.mem_cons_self ..)
    simp only [slices_IndexFunc_impl_ValidHeap_1.l0]
    rw [if_pos (by simp; omega), if_pos (by omega), if_pos (by simp; omega), rdOf_at, w64 (x := (a.length : Int) + 1) (by omega) (by omega), badName_eq x (by omega) k (by omega)]
    simp only [obind, okNames]
    cases hz : (decide (x.size = 0) || isNm x)
    · rw [if_pos (by rfl)]
      exact ⟨_, rfl, by simp⟩
    · rw [if_neg (by simp)]
      exact ⟨r, hi, by rw [hr]; simp⟩
theorem implValidHeap_eq (B : Nat) (l : List ByteArray) (hl : l.length ≤ 1099511627776) (hs : ∀ s ∈ l, s.size ≤ B) (hB : B ≤ 140737488351232) (k : Nat) (hk : l.length + B + 10 < k) : impl_ValidHeap.f k l = some (okHeap l) := by
  unfold impl_ValidHeap.f okHeap
  obtain ⟨r, h0, hr⟩ := badNames_l0 B l.length k [] l rfl (by omega) (by simpa using hl) hs hB
  rw [List.nil_append, show (([] : List ByteArray).length : Int) = 0 from rfl] at h0
  have hc : slices_ContainsFunc_impl_ValidHeap_1.f k l = some (!okNames l) := by
    unfold slices_ContainsFunc_impl_ValidHeap_1.f slices_IndexFunc_impl_ValidHeap_1.f
    rw [h0]
    simp only [obind]
    rw [hr]
  rw [hc]
  simp only [obind]
  by_cases h1 : (l.length : Int) ≤ 30
  · have h30 : l.length ≤ 30 := by omega
    rw [if_pos h1]
    by_cases h2 : (l.length : Int) = 0
    · rw [if_pos h2]
      have hn : l.length = 0 := by omega
      simp [hn]
    · have hne : ¬ l.length = 0 := by omega
      rw [if_neg h2, w64 (x := (l.length : Int) - 1) (by omega) (by omega), if_pos (by omega), if_pos (by omega)]
      generalize rdOf ByteArray.empty l ((l.length : Int) - 1) = x
      by_cases hz : x.size = 0
      · rw [if_pos ((toList_nil x).2 hz)]; simp [hz, hne]
      · rw [if_neg (fun h => hz ((toList_nil x).1 h))]; simp [hz, h30]
  · rw [if_neg h1]; simp; omega

/-! ### specIsName -/
theorem specLetter_eq (c : Int) : spec_l01Letter.f c = some (isLetter c) := by
  unfold spec_l01Letter.f isLetter
  by_cases h1 : c ≥ 65 <;> by_cases h2 : c ≤ 90 <;> by_cases h3 : c ≥ 97 <;> by_cases h4 : c ≤ 122 <;> simp [h1, h2, h3, h4] <;> omega
theorem specIsName_l0 (s : ByteArray) (hs : s.size ≤ 140737488351232) (d : Nat) : ∀ (k i : Nat), i + d = s.size → d < k → spec_IsName.l0 k s i = some (allFrom s i d) := by
  induction d with
  | zero =>
    intro k i hi hk
    obtain ⟨k, rfl⟩ : ∃ m, k = m + 1 := ⟨k - 1, by omega⟩
    simp only [spec_IsName.l0, allFrom]
    rw [if_neg (by omega)]
  | succ d ih =>
    intro k i hi hk
    obtain ⟨k, rfl⟩ : ∃ m, k = m + 1 := ⟨k - 1, by omega⟩
    have hn := ih k (i + 1) (by omega) (by omega)
    rw [show ((i + 1 : Nat) : Int) = (i : Int) + 1 by omega] at hn
    simp only [spec_IsName.l0, allFrom, specLetter_eq, obind]
    rw [if_pos (by omega), if_pos (by omega), w64 (x := (i : Int) + 1) (by omega) (by omega), hn]
    unfold isNameCh
    by_cases h1 : isLetter (bt s i) = true
    · rw [if_pos h1]; simp [h1]
    · rw [if_neg h1]
      by_cases h2 : bt s i ≥ 48 <;> by_cases h3 : bt s i ≤ 57 <;> by_cases h4 : bt s i = 95 <;> simp [h1, h2, h3, h4] <;> omega
theorem specIsName_eq (s : ByteArray) (hs : s.size ≤ 140737488351232) (k : Nat) (hk : 14 < k) : spec_IsName.f k s = some (isNm s) := by
  unfold spec_IsName.f isNm
  obtain ⟨k, rfl⟩ : ∃ m, k = m + 1 := ⟨k - 1, by omega⟩
  simp only [spec_IsName.j0, specLetter_eq, obind]
  by_cases h0 : (s.size : Int) = 0
  · rw [if_pos h0]; simp; omega
  · rw [if_neg h0]
    by_cases h1 : (s.size : Int) > 12
    · rw [if_pos h1]; simp; omega
    · rw [if_neg h1, if_pos (by omega)]
      have hn := specIsName_l0 s hs (s.size - 1) k 1 (by omega) (by omega)
      have e : ((1 : Nat) : Int) = 1 := rfl
      rw [e] at hn
      rw [hn]
      have h2 : 1 ≤ s.size := by omega
      have h3 : s.size ≤ 12 := by omega
      by_cases hl : isLetter (bt s 0) = true <;> simp [hl, h2, h3]

/-! ### specHeapOk -/
theorem specHeapOk_l0 (d : Nat) : ∀ (k : Nat) (a b : List ByteArray), b.length = d → d + 15 < k → a.length + d ≤ 1099511627776 → (∀ s ∈ b, s.size ≤ 140737488351232) →
    spec_l16Ok.l0 k ((a ++ b).length : Int) a.length (a ++ b) = some (okNames b) := by
  induction d with
  | zero =>
    intro k a b hb hk hl hs
    obtain ⟨k, rfl⟩ : ∃ m, k = m + 1 := ⟨k - 1, by omega⟩
    obtain rfl : b = [] := List.eq_nil_of_length_eq_zero hb
    simp only [spec_l16Ok.l0]
    rw [if_neg (by simp)]
    rfl
  | succ d ih =>
    intro k a b hb hk hl hs
    obtain ⟨k, rfl⟩ : ∃ m, k = m + 1 := ⟨k - 1, by omega⟩
    match b, hb with
    | x :: b, hb =>
    have hi := ih k (a ++ [x]) b (by simpa using hb) (by omega) (by simp; omega) (fun s h => hs s (List.mem_cons_of_mem _ h))
    rw [List.append_assoc, List.singleton_append, show ((a ++ [x]).length : Int) = (a.length : Int) + 1 by simp] at hi
    simp only [spec_l16Ok.l0]
    rw [if_pos (by simp; omega), if_pos (by omega), if_pos (by simp; omega), rdOf_at, w64 (x := (a.length : Int) + 1) (by omega) (by omega), hi, specIsName_eq x (hs x (List.mem_cons_self ..)) k (by omega)]
    simp only [obind, okNames]
    by_cases hz : x.size = 0
    · rw [if_pos ((toList_nil x).2 hz)]; simp [hz]
    · rw [if_neg (fun h => hz ((toList_nil x).1 h))]
      cases isNm x <;> simp [hz]
theorem specHeapOk_eq (l : List ByteArray) (hl : l.length ≤ 1099511627776) (hs : ∀ s ∈ l, s.size ≤ 140737488351232) (k : Nat) (hk : l.length + 20 < k) : spec_l16Ok.f k l = some (okHeap l) := by
  unfold spec_l16Ok.f okHeap
  obtain ⟨k, rfl⟩ : ∃ m, k = m + 1 := ⟨k - 1, by omega⟩
  have h0 := specHeapOk_l0 l.length k [] l rfl (by omega) (by simpa using hl) hs
  rw [List.nil_append, show (([] : List ByteArray).length : Int) = 0 from rfl] at h0
  simp only [spec_l16Ok.j0]
  by_cases h1 : (l.length : Int) > 30
  · rw [if_pos h1]; simp; omega
  · have h30 : l.length ≤ 30 := by omega
    rw [if_neg h1]
    by_cases h2 : (l.length : Int) > 0
    · have hne : ¬ l.length = 0 := by omega
      rw [if_pos h2, w64 (x := (l.length : Int) - 1) (by omega) (by omega), if_pos (by omega), if_pos (by omega), h0]
      generalize rdOf ByteArray.empty l ((l.length : Int) - 1) = x
      by_cases hz : x.size = 0
      · have he := (toList_nil x).2 hz
        simp [he, hz, hne]
      · have he : ¬ x.toList = ([] : List UInt8) := fun h => hz ((toList_nil x).1 h)
        simp [he, hz, h30]
    · have hn : l.length = 0 := by omega
      rw [if_neg h2, h0]
      simp [hn]

/-! ### eqString -/
theorem eqStringS_self (l : List ByteArray) (hl : l.length ≤ 1099511627776) (d : Nat) : ∀ (k i : Nat), i + d = l.length → d < k → laws_eqStringS.l0 k l l i = some true := by
  induction d with
  | zero =>
    intro k i hi hk
    obtain ⟨k, rfl⟩ : ∃ m, k = m + 1 := ⟨k - 1, by omega⟩
    simp only [laws_eqStringS.l0]
    rw [if_neg (by omega)]
  | succ d ih =>
    intro k i hi hk
    obtain ⟨k, rfl⟩ : ∃ m, k = m + 1 := ⟨k - 1, by omega⟩
    simp only [laws_eqStringS.l0]
    rw [if_pos (by omega), if_pos (by omega), if_pos (by omega), w64 (x := (i : Int) + 1) (by omega) (by omega), if_pos trivial]
    exact ih k (i + 1) (by omega) (by omega)
theorem eqStringS_refl (l : List ByteArray) (hl : l.length ≤ 1099511627776) (k : Nat) (hk : l.length < k) : laws_eqStringS.f k l l = some true := by
  unfold laws_eqStringS.f
  rw [if_pos rfl]
  exact eqStringS_self l hl l.length k 0 (by omega) hk

/-! ### markText -/
theorem markText_l0 (d : Nat) : ∀ (k : Nat) (n : Int) (s : ByteArray), 0 ≤ n → n < 10 ^ d → n ≤ 9223372036854775807 → d < k → s.size + d ≤ 1000 → ∃ t, laws_markText.l0 k n s = some t := by
  induction d with
  | zero =>
    intro k n s h0 h1 h2 hk hs
    obtain ⟨k, rfl⟩ : ∃ m, k = m + 1 := ⟨k - 1, by omega⟩
    simp only [laws_markText.l0]
    rw [if_neg (by omega), if_pos (by omega)]
    exact ⟨_, rfl⟩
  | succ d ih =>
    intro k n s h0 h1 h2 hk hs
    obtain ⟨k, rfl⟩ : ∃ m, k = m + 1 := ⟨k - 1, by omega⟩
    simp only [laws_markText.l0, obind]
    by_cases hn : n > 0
    · rw [if_pos hn, size_ofNums]
      rw [if_pos (by simp; omega), Int.tdiv_eq_ediv_of_nonneg h0, w64 (x := n / 10) (by omega) (by omega)]
      refine ih k (n / 10) _ (by omega) ?_ (by omega) (by omega) ?_
      · rw [Int.pow_succ] at h1
        omega
      · rw [ByteArray.size_append, size_ofNums]; simp; omega
    · rw [if_neg hn, if_pos (by omega)]
      exact ⟨_, rfl⟩
/-- The text of a number's mark. -/
def mtx (n : Int) : ByteArray := (laws_markText.f 40 n).getD ⟨#[]⟩
theorem markText_eq (n : Int) (h : n ≤ 9223372036854775807) (k : Nat) (hk : 40 ≤ k) : laws_markText.f k n = some (mtx n) := by
  have h1 : ∃ t, laws_markText.f 40 n = some t := by
    unfold laws_markText.f
    by_cases hn : n ≤ 0
    · rw [if_pos hn]; exact ⟨_, rfl⟩
    · rw [if_neg hn]
      refine markText_l0 20 40 n _ (by omega) ?_ h (by omega) (by decide)
      have : (10 : Int) ^ 20 = 100000000000000000000 := by decide +kernel
      omega
  obtain ⟨t, ht⟩ := h1
  have he : mtx n = t := by unfold mtx; rw [ht]; rfl
  rw [he]
  exact at_rounds (g := fun k => laws_markText.f k n) (fun k => laws_markText.mono n k) hk ht

/-! ### markString -/
def strsFrom (m : Int) (d : Nat) : List ByteArray := (List.range d).map fun j : Nat => mtx (m + j)
theorem strsFrom_succ (m : Int) (d : Nat) : strsFrom m (d + 1) = mtx m :: strsFrom (m + 1) d := by
  unfold strsFrom
  rw [List.range_succ_eq_map, List.map_cons, List.map_map]
  congr 1
  · simp
  · apply List.map_congr_left
    intro j _
    show mtx (m + ((j + 1 : Nat) : Int)) = mtx (m + 1 + j)
    rw [show m + ((j + 1 : Nat) : Int) = m + 1 + j by omega]
theorem markStringS_l0 (d : Nat) : ∀ (k : Nat) (a b : List ByteArray) (m : Int), b.length = d → d + 41 < k → a.length + d ≤ 1099511627776 → 0 ≤ m → m + d ≤ 9223372036854775000 →
    laws_markStringS.l0 k (a ++ b) m a.length = some (m + d, a ++ strsFrom m d) := by
  induction d with
  | zero =>
    intro k a b m hb hk hl h0 h1
    obtain ⟨k, rfl⟩ : ∃ m, k = m + 1 := ⟨k - 1, by omega⟩
    obtain rfl : b = [] := List.eq_nil_of_length_eq_zero hb
    simp only [laws_markStringS.l0]
    rw [if_neg (by simp)]
    simp [strsFrom]
  | succ d ih =>
    intro k a b m hb hk hl h0 h1
    obtain ⟨k, rfl⟩ : ∃ m, k = m + 1 := ⟨k - 1, by omega⟩
    match b, hb with
    | x :: b, hb =>
    simp only [laws_markStringS.l0]
    have hset : ∀ (y z : ByteArray), (a ++ y :: b).set (a.length : Int).toNat z = a ++ z :: b := fun y z => by simp
    rw [if_pos (by simp; omega), markText_eq m (by omega) k (by omega)]
    simp only [obind]
    rw [if_pos (by omega), hset, w64 (x := m + 1) (by omega) (by omega), w64 (x := (a.length : Int) + 1) (by omega) (by omega)]
    have := ih k (a ++ [mtx m]) b (m + 1) (by simpa using hb) (by omega) (by simp; omega) (by omega) (by omega)
    simp only [List.append_assoc, List.singleton_append, List.length_append, List.length_singleton, Int.natCast_add, Int.cast_ofNat_Int] at this
    rw [this, strsFrom_succ]
    congr 2
    omega
theorem heldStringS_l0 (d : Nat) : ∀ (k : Nat) (a : List ByteArray) (m : Int), d + 41 < k → a.length + d ≤ 1099511627776 → 0 ≤ m → m + d ≤ 9223372036854775000 →
    laws_heldStringS.l0 k (a ++ strsFrom m d) m a.length = some (m + d) := by
  induction d with
  | zero =>
    intro k a m hk hl h0 h1
    obtain ⟨k, rfl⟩ : ∃ m, k = m + 1 := ⟨k - 1, by omega⟩
    simp only [laws_heldStringS.l0]
    rw [if_neg (by simp [strsFrom])]
    simp
  | succ d ih =>
    intro k a m hk hl h0 h1
    obtain ⟨k, rfl⟩ : ∃ m, k = m + 1 := ⟨k - 1, by omega⟩
    rw [strsFrom_succ]
    simp only [laws_heldStringS.l0]
    have hrd : rdOf ByteArray.empty (a ++ mtx m :: strsFrom (m + 1) d) a.length = mtx m := by simp [rdOf]
    rw [if_pos (by simp; omega), if_pos (by omega), markText_eq m (by omega) k (by omega), hrd]
    simp only [obind]
    rw [if_pos trivial, w64 (x := m + 1) (by omega) (by omega), w64 (x := (a.length : Int) + 1) (by omega) (by omega)]
    have := ih k (a ++ [mtx m]) (m + 1) (by omega) (by simp; omega) (by omega) (by omega)
    simp only [List.append_assoc, List.singleton_append, List.length_append, List.length_singleton, Int.natCast_add, Int.cast_ofNat_Int] at this
    rw [this]
    congr 1
    omega
theorem markStringS_f (l : List ByteArray) (hl : l.length ≤ 1099511627776) (k : Nat) (hk : l.length + 41 < k) : laws_markStringS.f k l 1 = some (1 + (l.length : Int), strsFrom 1 l.length) := by
  unfold laws_markStringS.f
  exact markStringS_l0 l.length k [] l 1 rfl hk (by simpa using hl) (by omega) (by omega)
theorem heldStringS_f (n : Nat) (hl : n ≤ 1099511627776) (k : Nat) (hk : n + 41 < k) : laws_heldStringS.f k (strsFrom 1 n) 1 = some (1 + (n : Int)) := by
  unfold laws_heldStringS.f
  exact heldStringS_l0 n k [] 1 hk (by simpa using hl) (by omega) (by omega)

theorem toStringS_l0 (d : Nat) : ∀ (k : Nat) (a b c : List ByteArray), b.length = d → c.length = d → d < k → a.length + d ≤ 1099511627776 → laws_toStringS.l0 k (a ++ b) (a ++ c) a.length = some (a ++ b) := by
  induction d with
  | zero =>
    intro k a b c hb hc hk hl
    obtain ⟨k, rfl⟩ : ∃ m, k = m + 1 := ⟨k - 1, by omega⟩
    obtain rfl : b = [] := List.eq_nil_of_length_eq_zero hb
    obtain rfl : c = [] := List.eq_nil_of_length_eq_zero hc
    simp only [laws_toStringS.l0]
    rw [if_neg (by simp)]
  | succ d ih =>
    intro k a b c hb hc hk hl
    obtain ⟨k, rfl⟩ : ∃ m, k = m + 1 := ⟨k - 1, by omega⟩
    match b, hb, c, hc with
    | x :: b, hb, y :: c, hc =>
    have hi := ih k (a ++ [x]) b c (by simpa using hb) (by simpa using hc) (by omega) (by simp; omega)
    rw [List.append_assoc, List.singleton_append, List.append_assoc, List.singleton_append, show ((a ++ [x]).length : Int) = (a.length : Int) + 1 by simp] at hi
    have hset : (a ++ y :: c).set (a.length : Int).toNat x = a ++ x :: c := by simp
    simp only [laws_toStringS.l0]
    rw [if_pos (by simp; omega), if_pos (by omega), if_pos (by simp; omega), rdOf_at, hset, w64 (x := (a.length : Int) + 1) (by omega) (by omega), hi]
theorem toStringS_eq (l : List ByteArray) (hl : l.length ≤ 1099511627776) (k : Nat) (hk : l.length < k) : laws_toStringS.f k l = some l := by
  unfold laws_toStringS.f
  rw [if_pos (by omega), if_pos (by omega)]
  have := toStringS_l0 l.length k [] l (List.replicate l.length (⟨#[]⟩ : ByteArray)) rfl (by simp) hk (by simpa using hl)
  simpa using this
theorem szStringS_l0 (d : Nat) : ∀ (k : Nat) (a b : List ByteArray) (m : Int), b.length = d → d < k → a.length + d ≤ 8796093022208 → (∀ s ∈ b, s.size ≤ 140737488351232) → 0 ≤ m → m ≤ 1048576 →
    ∃ t, laws_szStringS.l0 k (a ++ b) m a.length = some t ∧ (0 ≤ t → t ≤ m ∧ ∀ s ∈ b, (s.size : Int) ≤ m) := by
  induction d with
  | zero =>
    intro k a b m hb hk hl hs h0 h1
    obtain ⟨k, rfl⟩ : ∃ m, k = m + 1 := ⟨k - 1, by omega⟩
    obtain rfl : b = [] := List.eq_nil_of_length_eq_zero hb
    simp only [laws_szStringS.l0]
    rw [if_neg (by simp)]
    exact ⟨m, rfl, fun _ => ⟨by omega, by simp⟩⟩
  | succ d ih =>
    intro k a b m hb hk hl hs h0 h1
    obtain ⟨k, rfl⟩ : ∃ m, k = m + 1 := ⟨k - 1, by omega⟩
    match b, hb with
    | x :: b, hb =>
    have hx := hs x (List.mem_cons_self ..)
    simp only [laws_szStringS.l0]
    rw [if_pos (by simp; omega), if_pos (by omega), rdOf_at, w64 (x := m - (x.size : Int)) (by omega) (by omega), w64 (x := (a.length : Int) + 1) (by omega) (by omega)]
    by_cases hn : m - (x.size : Int) < 0
    · rw [if_pos hn]
      exact ⟨_, rfl, fun h => by omega⟩
    · rw [if_neg hn]
      obtain ⟨t, hi, ht⟩ := ih k (a ++ [x]) b (m - (x.size : Int)) (by simpa using hb) (by omega) (by simp; omega) (fun s h => hs s (List.mem_cons_of_mem _ h)) (by omega) (by omega)
      rw [List.append_assoc, List.singleton_append, show ((a ++ [x]).length : Int) = (a.length : Int) + 1 by simp] at hi
      refine ⟨t, hi, fun h => ?_⟩
      obtain ⟨h2, h3⟩ := ht h
      refine ⟨by omega, fun s hm => ?_⟩
      rcases List.mem_cons.1 hm with rfl | hm
      · omega
      · have := h3 s hm; omega
theorem szStringS_eq (l : List ByteArray) (hl : l.length ≤ 8796093022208) (hs : ∀ s ∈ l, s.size ≤ 140737488351232) (k : Nat) (hk : 1048580 ≤ k) : ∃ t, laws_szStringS.f k l 1048576 = some t ∧ (0 ≤ t → l.length ≤ 1048576 ∧ ∀ s ∈ l, s.size ≤ 1048576) := by
  unfold laws_szStringS.f
  rw [w64 (x := 1048576 - (l.length : Int)) (by omega) (by omega)]
  by_cases hn : 1048576 - (l.length : Int) < 0
  · rw [if_pos hn]; exact ⟨_, rfl, fun h => by omega⟩
  · rw [if_neg hn]
    obtain ⟨t, h1, h2⟩ := szStringS_l0 l.length k [] l (1048576 - (l.length : Int)) rfl (by omega) (by simpa using hl) hs (by omega) (by omega)
    refine ⟨t, h1, fun h => ⟨by omega, fun s hm => ?_⟩⟩
    have := (h2 h).2 s hm
    omega
/-- The names without the empty ones behind. -/
def trim (X : List ByteArray) : Nat → Nat
  | 0 => 0
  | n + 1 => if (rdOf ByteArray.empty X n).toList = ([] : List UInt8) then trim X n else n + 1
theorem trim_le (X : List ByteArray) : ∀ n, trim X n ≤ n
  | 0 => Nat.le_refl _
  | n + 1 => by
    unfold trim
    split
    · have := trim_le X n; omega
    · omega
theorem specDrop_l0 (X : List ByteArray) (hX : X.length ≤ 1099511627776) (n : Nat) : ∀ k, n ≤ X.length → n < k → spec_DropName.l0 k n X = some (X.take (trim X n), 0) := by
  induction n with
  | zero =>
    intro k hn hk
    obtain ⟨k, rfl⟩ : ∃ m, k = m + 1 := ⟨k - 1, by omega⟩
    simp only [spec_DropName.l0]
    rw [if_neg (by omega), if_pos (by omega), if_pos (by omega)]
    rfl
  | succ n ih =>
    intro k hn hk
    obtain ⟨k, rfl⟩ : ∃ m, k = m + 1 := ⟨k - 1, by omega⟩
    simp only [spec_DropName.l0]
    rw [if_pos (by omega), w64 (x := ((n + 1 : Nat) : Int) - 1) (by omega) (by omega), if_pos (by omega), if_pos (by omega), show ((n + 1 : Nat) : Int) - 1 = n by omega, ih k (by omega) (by omega)]
    have q0 : (0 : Int) ≤ ((n + 1 : Nat) : Int) := by omega
    have q1 : ((n + 1 : Nat) : Int) ≤ (X.length : Int) := by omega
    rw [show trim X (n + 1) = if (rdOf ByteArray.empty X n).toList = ([] : List UInt8) then trim X n else n + 1 from rfl]
    by_cases h : (rdOf ByteArray.empty X n).toList = ([] : List UInt8)
    · rw [if_pos h, if_pos h]
    · rw [if_neg h, if_neg h, if_pos q0, if_pos q1]; rfl
theorem rdOf_take (X : List ByteArray) (n m : Nat) (h : m < n) : rdOf ByteArray.empty (X.take n) m = rdOf ByteArray.empty X m := by
  simp [rdOf, List.getD, h]
theorem implDrop_l0 (X : List ByteArray) (hX : X.length ≤ 1099511627776) (n : Nat) : ∀ k, n ≤ X.length → n < k → impl_NameHeap_drop.l0 k n (X.take n) = some (X.take (trim X n)) := by
  induction n with
  | zero =>
    intro k hn hk
    obtain ⟨k, rfl⟩ : ∃ m, k = m + 1 := ⟨k - 1, by omega⟩
    simp only [impl_NameHeap_drop.l0]
    rw [if_neg (by omega)]
    rfl
  | succ n ih =>
    intro k hn hk
    obtain ⟨k, rfl⟩ : ∃ m, k = m + 1 := ⟨k - 1, by omega⟩
    have hlen : ((X.take (n + 1)).length : Int) = n + 1 := by rw [List.length_take]; omega
    simp only [impl_NameHeap_drop.l0]
    rw [if_pos (by omega), w64 (x := ((n + 1 : Nat) : Int) - 1) (by omega) (by omega), show ((n + 1 : Nat) : Int) - 1 = n by omega, hlen, if_pos (by omega), if_pos (by omega), rdOf_take X (n + 1) n (by omega), if_pos (show ((n : Nat) : Int) ≤ (n : Int) + 1 by omega), Int.toNat_natCast, List.take_take, Nat.min_eq_left (by omega : n ≤ n + 1), ih k (by omega) (by omega)]
    rw [show trim X (n + 1) = if (rdOf ByteArray.empty X n).toList = ([] : List UInt8) then trim X n else n + 1 from rfl]
    by_cases h : (rdOf ByteArray.empty X n).toList = ([] : List UInt8)
    · rw [if_pos h, if_pos h]
    · rw [if_neg h, if_neg h]
theorem drop_any (l : List ByteArray) (hl : l.length ≤ 1048576) (hs : ∀ s ∈ l, s.size ≤ 1048576) (a : Int) (k : Nat) (hk : 3000000 ≤ k) : ∃ r : List ByteArray × Int, spec_DropName.f k l a = some r ∧ impl_DropName.f k l a = some r ∧ r.1.length ≤ 1048576 := by
  unfold spec_DropName.f impl_DropName.f
  rw [specHeapOk_eq l (by omega) (fun s h => by have := hs s h; omega) k (by omega), implValidHeap_eq 1048576 l (by omega) hs (by omega) k (by omega)]
  simp only [obind]
  by_cases h0 : okHeap l = true
  · rw [if_pos h0, if_pos h0]
    unfold spec_NameAt.f impl_NameHeap_used.f impl_isIndex.f
    rw [specHeapOk_eq l (by omega) (fun s h => by have := hs s h; omega) k (by omega), l00In_eq, within_eq]
    simp only [obind, if_pos h0]
    rw [w64 (x := (l.length : Int) - 1) (by omega) (by omega)]
    by_cases h1 : 0 ≤ a ∧ a ≤ (l.length : Int) - 1
    · obtain ⟨n, rfl⟩ := Int.eq_ofNat_of_zero_le h1.1
      have h2 : n < l.length := by omega
      have q0 : (0 : Int) ≤ ((n : Nat) : Int) := by omega
      have q1 : ((n : Nat) : Int) < (l.length : Int) := by omega
      simp only [decide_eq_true h1, if_true, if_pos q0, if_pos q1]
      by_cases h3 : (rdOf ByteArray.empty l n).toList = ([] : List UInt8)
      · have h4 : ((rdOf ByteArray.empty l n).toList != ([] : List UInt8)) = false := by simpa using h3
        simp only [if_pos h3, h4, obind, Bool.false_eq_true, if_false]
        exact ⟨_, rfl, rfl, Nat.zero_le _⟩
      · have h4 : ((rdOf ByteArray.empty l n).toList != ([] : List UInt8)) = true := by simpa using h3
        simp only [if_neg h3, h4, if_true, obind]
        unfold spec_l16Own.f impl_NameHeap_drop.f slices_Clone_string_string.f
        simp only [obind, List.nil_append, List.length_nil, Nat.zero_add]
        have q2 : l.length < 8796093022208 := by omega
        simp only [if_pos q2, obind, if_pos q0, if_pos q1]
        have hX : (l.set n (⟨#[]⟩ : ByteArray)).length = l.length := by simp
        have hd := implDrop_l0 (l.set n (⟨#[]⟩ : ByteArray)) (by omega) l.length k (by omega) (by omega)
        rw [List.take_of_length_le (by omega)] at hd
        rw [Int.toNat_natCast, specDrop_l0 (l.set n (⟨#[]⟩ : ByteArray)) (by omega) l.length k (by omega) (by omega), hd]
        simp only [obind]
        refine ⟨_, rfl, rfl, ?_⟩
        simp only [List.length_take]
        omega
    · simp only [decide_eq_false h1, Bool.false_eq_true, if_false, obind]
      exact ⟨_, rfl, rfl, Nat.zero_le _⟩
  · rw [if_neg h0, if_neg h0]
    exact ⟨_, rfl, rfl, Nat.zero_le _⟩
theorem FnExactDropName : laws_FnExactDropName.Pure := by
  intro l a hl ha
  obtain ⟨hl1, hl2, hs⟩ := hl
  have hl3 : l.length ≤ 8796093022208 := by omega
  obtain ⟨K, hK⟩ : ∃ K, 3000000 ≤ K := ⟨_, Nat.le_refl _⟩
  refine ⟨K + 3, ?_⟩
  unfold laws_FnExactDropName.f laws_szNameHeap.f
  obtain ⟨t, ht, hb⟩ := szStringS_eq l hl3 hs (K + 3) (by omega)
  rw [ht]
  simp only [obind]
  by_cases hn : t < 0
  · simp only [if_pos hn, obind]
    rw [if_pos (by decide)]
  · simp only [if_neg hn, obind]
    obtain ⟨hb1, hb2⟩ := hb (by omega)
    obtain ⟨⟨r, s⟩, h1, h2, h3⟩ := drop_any l hb1 hb2 a (K + 3) (by omega)
    obtain ⟨⟨r', s'⟩, h1', h2', _⟩ := drop_any l hb1 hb2 a (K + 1) (by omega)
    have hm := at_rounds (g := fun k => impl_DropName.f k l a) (fun k => impl_DropName.mono l a k) (show K + 1 ≤ K + 3 by omega) h2'
    obtain ⟨rfl, rfl⟩ : r' = r ∧ s' = s := by
      have := hm.symm.trans h2
      simpa using this
    simp only at h3
    have tos : ∀ k, 2000000 ≤ k → laws_toNameHeap.f k l = some l := fun k hk => by
      unfold laws_toNameHeap.f
      rw [toStringS_eq l (by omega) k (by omega)]
      rfl
    have eq : ∀ (x : List ByteArray) k, x.length ≤ 1048576 → 2000000 ≤ k → laws_eqNameHeap.f k x x = some true := fun x k hx hk => by
      unfold laws_eqNameHeap.f
      rw [eqStringS_refl x (by omega) k (by omega)]
      rfl
    have mk : ∀ (x : List ByteArray) k, x.length ≤ 1048576 → 2000000 ≤ k → laws_markNameHeap.f k x 1 = some (1 + (x.length : Int), strsFrom 1 x.length) := fun x k hx hk => by
      unfold laws_markNameHeap.f
      rw [markStringS_f x (by omega) k (by omega)]
      rfl
    have hd : ∀ (n : Nat) k, n ≤ 1048576 → 2000000 ≤ k → laws_heldNameHeap.f k (strsFrom 1 n) 1 = some (1 + (n : Int)) := fun n k hx hk => by
      unfold laws_heldNameHeap.f
      rw [heldStringS_f n (by omega) k (by omega)]
      simp only [obind]
      rw [if_neg (by omega)]
    have p1 : ¬ (1 + (r'.length : Int) < 0) := by omega
    have p2 : ¬ (1 + (l.length : Int) < 0) := by omega
    have j2 : laws_FnExactDropName.j2 (K + 1) (1 + (r'.length : Int)) false (strsFrom 1 r'.length) = some true := by
      simp only [laws_FnExactDropName.j2, Bool.false_eq_true, if_false, hd r'.length K h3 (by omega), obind, if_neg p1, if_true]
    have j1 : laws_FnExactDropName.j1 (K + 2) a s' false l r' r' = some true := by
      simp only [laws_FnExactDropName.j1, Bool.false_eq_true, if_false, mk r' (K + 1) h3 (by omega), hd r'.length (K + 1) h3 (by omega), obind, if_neg p1, if_true, tos (K + 1) (by omega), h2', eq r' (K + 1) h3 (by omega), bne_self_eq_false]
      exact j2
    have j0 : laws_FnExactDropName.j0 (K + 3) a s' s' false l r' l r' = some true := by
      simp only [laws_FnExactDropName.j0, Bool.false_eq_true, if_false, tos (K + 2) (by omega), eq l (K + 2) hb1 (by omega), mk l (K + 2) hb1 (by omega), obind, if_neg p2, if_true, eq r' (K + 2) h3 (by omega), bne_self_eq_false]
      exact j1
    simp only [tos (K + 3) (by omega), h1, h2, obind, eq r' (K + 3) h3 (by omega), if_true, bne_self_eq_false]
    exact j0

end Go.Proofs.Ytlcbbiiohhplfaa.Pure
