/- DecodeSpace of the program answers as the reference's, for all arguments. -/
import Derived.Test.YtlcbbiiohhplfabKit
import Derived.Test.YtlcbbiiohhplfabMFnExactDecodeSpacex6
namespace Go.Proofs.Ytlcbbiiohhplfab.Pure
open Go.RowKit Go.Proofs.Ytlcbbiiohhplfab.PFnExactDecodeSpace Go.Proofs.YtlcbbiiohhplfabW.PrintWords Go.Proofs.YtlcbbiiohhplfabW.PrintLast Go.Proofs.Ytlcbbiiohhplfab.Kit

/-! ### l00In -/
theorem l00In_eq (a b c : Int) : spec_l00In.f a b c = some (decide (b ≤ a ∧ a ≤ c)) := by
  unfold spec_l00In.f
  by_cases h : b ≤ a
  · rw [if_pos h]; simp [h]
  · rw [if_neg h]; simp [h]

/-! ### spaceModel -/
def inR (x : Int) : Bool := decide (0 ≤ x ∧ x ≤ 40)
def prodF (P : Int) : List Int → Int
  | [] => P
  | x :: l => prodF (P * x) l
/-- Valid dimensions. -/
def okDims (l : List Int) : Bool := decide (l.length ≤ 3) && (l.all inR && decide (prodF 1 l ≤ 600))
def okMx (ds ms : List Int) : Nat → Nat → Bool
  | 0, _ => true
  | d + 1, i => (decide (rd ms i = -1) || decide (rd ds i ≤ rd ms i ∧ rd ms i ≤ 40)) && okMx ds ms d (i + 1)
/-- A valid dataspace. -/
def okSpace (ds ms : List Int) : Bool := okDims ds && (decide (ms.length = ds.length) && okMx ds ms ms.length 0)
theorem rd_at (a : List Int) (x : Int) (b : List Int) : rd (a ++ x :: b) (a.length : Int) = x := by simp [rd]
theorem mul_bd {P x : Int} {n : Nat} (h0 : 0 ≤ P) (h1 : P ≤ 40 ^ n) (hx : inR x = true) (hn : n ≤ 2) : 0 ≤ P * x ∧ P * x ≤ 40 ^ (n + 1) ∧ P * x ≤ 64000 := by
  simp only [inR, decide_eq_true_eq] at hx
  have hp : (0 : Int) ≤ 40 ^ n := Int.le_of_lt (Int.pow_pos (by decide))
  have h2 : P * x ≤ 40 ^ n * 40 := Int.mul_le_mul h1 hx.2 hx.1 hp
  have h3 : (40 : Int) ^ (n + 1) = 40 ^ n * 40 := Int.pow_succ ..
  have h4 : (40 : Int) ^ (n + 1) ≤ 40 ^ 3 := pow_mono (by decide) (by omega)
  have h5 : (40 : Int) ^ 3 = 64000 := by decide
  exact ⟨Int.mul_nonneg h0 hx.1, by omega, by omega⟩

/-! ### specSpace -/
theorem specDims_l0 (d : Nat) : ∀ (k : Nat) (a b : List Int) (P : Int), b.length = d → d < k → a.length + d ≤ 3 → 0 ≤ P → P ≤ 40 ^ a.length →
    spec_l05Dims.l0 k (a ++ b) P a.length = some (b.all inR && decide (prodF P b ≤ 600)) := by
  induction d with
  | zero =>
    intro k a b P hb hk hl h0 h1
    obtain ⟨k, rfl⟩ : ∃ m, k = m + 1 := ⟨k - 1, by omega⟩
    obtain rfl : b = [] := List.eq_nil_of_length_eq_zero hb
    simp only [spec_l05Dims.l0]
    rw [if_neg (by simp)]
    rfl
  | succ d ih =>
    intro k a b P hb hk hl h0 h1
    obtain ⟨k, rfl⟩ : ∃ m, k = m + 1 := ⟨k - 1, by omega⟩
    match b, hb with
    | x :: b, hb =>
    simp only [spec_l05Dims.l0]
    rw [if_pos (by simp; omega), if_pos (by omega), rd_at, w64 (x := (a.length : Int) + 1) (by omega) (by omega), l00In_eq]
    simp only [obind, List.all_cons, prodF]
    by_cases hx : inR x = true
    · obtain ⟨p0, p1, p2⟩ := mul_bd h0 h1 hx (by omega)
      have hi := ih k (a ++ [x]) b (P * x) (by simpa using hb) (by omega) (by simp; omega) p0 (by rw [List.length_append]; exact p1)
      rw [List.append_assoc, List.singleton_append, show ((a ++ [x]).length : Int) = (a.length : Int) + 1 by simp] at hi
      have hx' : decide (0 ≤ x ∧ x ≤ 40) = true := hx
      rw [if_pos hx', w64 (x := P * x) (by omega) (by omega), hi, hx]
      simp only [Bool.true_and]
      rfl
    · have hx' : ¬ decide (0 ≤ x ∧ x ≤ 40) = true := hx
      rw [if_neg hx']
      simp [hx]
theorem specDims_eq (l : List Int) (k : Nat) (hk : 3 < k) : spec_l05Dims.f k l = some (okDims l) := by
  unfold spec_l05Dims.f okDims
  by_cases h : (l.length : Int) > 3
  · rw [if_pos h, decide_eq_false (show ¬ l.length ≤ 3 by omega)]; rfl
  · rw [if_neg h, decide_eq_true (show l.length ≤ 3 by omega)]
    have h0 := specDims_l0 l.length k [] l 1 rfl (by omega) (by simp; omega) (by omega) (by decide)
    rw [List.nil_append, show (([] : List Int).length : Int) = 0 from rfl] at h0
    rw [h0]; simp
theorem specSpace_l0 (ds ms : List Int) (hm : ms.length = ds.length) (hl : ms.length ≤ 100000) (d : Nat) : ∀ (k i : Nat), i + d = ms.length → d < k → spec_l05Space.l0 k i ds ms = some (okMx ds ms d i) := by
  induction d with
  | zero =>
    intro k i hi hk
    obtain ⟨k, rfl⟩ : ∃ m, k = m + 1 := ⟨k - 1, by omega⟩
    simp only [spec_l05Space.l0]
    rw [if_neg (by omega)]
    rfl
  | succ d ih =>
    intro k i hi hk
    obtain ⟨k, rfl⟩ : ∃ m, k = m + 1 := ⟨k - 1, by omega⟩
    have h := ih k (i + 1) (by omega) (by omega)
    rw [show ((i + 1 : Nat) : Int) = (i : Int) + 1 by omega] at h
    have q0 : (i : Int) < (ds.length : Int) := by omega
    simp only [spec_l05Space.l0]
    rw [if_pos (by omega), if_pos (by omega), w64 (x := (i : Int) + 1) (by omega) (by omega), h, l00In_eq]
    simp only [obind, okMx, if_pos q0]
    by_cases h1 : rd ms i = -1
    · rw [if_pos h1]; simp [h1]
    · rw [if_neg h1]
      by_cases h2 : rd ds i ≤ rd ms i ∧ rd ms i ≤ 40
      · rw [decide_eq_true h2]; simp
      · rw [decide_eq_false h2]; simp [h1]
theorem specSpaceOk_eq (ds ms : List Int) (k : Nat) (hk : 10 < k) : spec_l05Space.f k ds ms = some (okSpace ds ms) := by
  unfold spec_l05Space.f okSpace
  obtain ⟨k, rfl⟩ : ∃ m, k = m + 1 := ⟨k - 1, by omega⟩
  rw [specDims_eq ds (k + 1) (by omega)]
  simp only [obind, spec_l05Space.j0]
  by_cases h : okDims ds = true
  · have hl : ds.length ≤ 3 := by
      unfold okDims at h
      simp only [Bool.and_eq_true, decide_eq_true_eq] at h
      exact h.1
    rw [if_pos h, h]
    by_cases hm : ms.length = ds.length
    · have h0 := specSpace_l0 ds ms hm (by omega) ms.length k 0 (by omega) (by omega)
      rw [show ((0 : Nat) : Int) = 0 from rfl] at h0
      have hb : ((ms.length : Int) != (ds.length : Int)) = false := by rw [hm]; simp
      rw [hb, h0, decide_eq_true hm]
      simp
    · have hb : ((ms.length : Int) != (ds.length : Int)) = true := by
        have : (ms.length : Int) ≠ (ds.length : Int) := by omega
        simpa using this
      rw [hb, decide_eq_false hm]
      simp
  · rw [if_neg h]; simp [h]

/-! ### within -/
theorem within_eq (a b c : Int) : impl_within.f a b c = some (decide (b ≤ a ∧ a ≤ c)) := by
  unfold impl_within.f
  by_cases h : b ≤ a
  · rw [if_pos h]; simp [h]
  · rw [if_neg h]; simp [h]

/-! ### implSpace -/
theorem allW_l0 (lo hi : Int) (d : Nat) : ∀ (k : Nat) (a b : List Int), b.length = d → d < k → a.length + d ≤ 1099511627776 →
    ∃ r, slices_IndexFunc_impl_allWithin_1.l0 k (a ++ b) ((a ++ b).length : Int) a.length lo hi = some r ∧ decide (r ≥ 0) = !(b.all fun x => decide (lo ≤ x ∧ x ≤ hi)) := by
  induction d with
  | zero =>
    intro k a b hb hk hl
    obtain ⟨k, rfl⟩ : ∃ m, k = m + 1 := ⟨k - 1, by omega⟩
    obtain rfl : b = [] := List.eq_nil_of_length_eq_zero hb
    simp only [slices_IndexFunc_impl_allWithin_1.l0]
    rw [if_neg (by simp)]
    exact ⟨_, rfl, by simp⟩
  | succ d ih =>
    intro k a b hb hk hl
    obtain ⟨k, rfl⟩ : ∃ m, k = m + 1 := ⟨k - 1, by omega⟩
    match b, hb with
    | x :: b, hb =>
    obtain ⟨r, hi', hr⟩ := ih k (a ++ [x]) b (by simpa using hb) (by omega) (by simp; omega)
    rw [List.append_assoc, List.singleton_append, show ((a ++ [x]).length : Int) = (a.length : Int) + 1 by simp] at hi'
    simp only [slices_IndexFunc_impl_allWithin_1.l0]
    unfold impl_allWithin_1.f
    rw [if_pos (by simp; omega), if_pos (by omega), if_pos (by simp; omega), rd_at, w64 (x := (a.length : Int) + 1) (by omega) (by omega), within_eq]
    simp only [obind, List.all_cons]
    by_cases hx : lo ≤ x ∧ x ≤ hi
    · rw [decide_eq_true hx, if_neg (by simp)]
      exact ⟨r, hi', by rw [hr]; simp⟩
    · rw [decide_eq_false hx, if_pos (by rfl)]
      exact ⟨_, rfl, by simp⟩
theorem allWithin_eq (l : List Int) (lo hi : Int) (hl : l.length ≤ 1099511627776) (k : Nat) (hk : l.length < k) : impl_allWithin.f k l lo hi = some (l.all fun x => decide (lo ≤ x ∧ x ≤ hi)) := by
  obtain ⟨r, h0, hr⟩ := allW_l0 lo hi l.length k [] l rfl hk (by simpa using hl)
  rw [List.nil_append, show (([] : List Int).length : Int) = 0 from rfl] at h0
  unfold impl_allWithin.f slices_ContainsFunc_impl_allWithin_1.f slices_IndexFunc_impl_allWithin_1.f
  rw [h0]
  simp only [obind]
  rw [hr]
  simp
theorem product_l0 (d : Nat) : ∀ (k : Nat) (a b : List Int) (P : Int), b.length = d → d < k → a.length + d ≤ 3 → 0 ≤ P → P ≤ 40 ^ a.length → b.all inR = true →
    impl_product.l0 k P (a ++ b) ((a ++ b).length : Int) a.length = some (prodF P b) := by
  induction d with
  | zero =>
    intro k a b P hb hk hl h0 h1 hr
    obtain ⟨k, rfl⟩ : ∃ m, k = m + 1 := ⟨k - 1, by omega⟩
    obtain rfl : b = [] := List.eq_nil_of_length_eq_zero hb
    simp only [impl_product.l0]
    rw [if_neg (by simp)]
    rfl
  | succ d ih =>
    intro k a b P hb hk hl h0 h1 hr
    obtain ⟨k, rfl⟩ : ∃ m, k = m + 1 := ⟨k - 1, by omega⟩
    match b, hb with
    | x :: b, hb =>
    simp only [List.all_cons, Bool.and_eq_true] at hr
    obtain ⟨p0, p1, p2⟩ := mul_bd h0 h1 hr.1 (by omega)
    have hi := ih k (a ++ [x]) b (P * x) (by simpa using hb) (by omega) (by simp; omega) p0 (by rw [List.length_append]; exact p1) hr.2
    rw [List.append_assoc, List.singleton_append, show ((a ++ [x]).length : Int) = (a.length : Int) + 1 by simp] at hi
    simp only [impl_product.l0, prodF]
    rw [if_pos (by simp; omega), if_pos (by omega), if_pos (by simp; omega), rd_at, w64 (x := (a.length : Int) + 1) (by omega) (by omega), w64 (x := P * x) (by omega) (by omega), hi]
theorem implDims_eq (l : List Int) (k : Nat) (hk : 3 < k) : impl_ValidDims.f k l = some (okDims l) := by
  unfold impl_ValidDims.f okDims
  by_cases h : (l.length : Int) ≤ 3
  · rw [if_pos h, allWithin_eq l 0 40 (by omega) k (by omega), decide_eq_true (show l.length ≤ 3 by omega)]
    simp only [obind]
    by_cases hr : l.all inR = true
    · have hr' : (l.all fun x => decide (0 ≤ x ∧ x ≤ 40)) = true := hr
      have h0 := product_l0 l.length k [] l 1 rfl (by omega) (by simp; omega) (by omega) (by decide) hr
      rw [List.nil_append, show (([] : List Int).length : Int) = 0 from rfl] at h0
      unfold impl_product.f
      rw [if_pos hr', h0, hr]
      simp only [obind, Bool.true_and]
    · have hr' : ¬ (l.all fun x => decide (0 ≤ x ∧ x ≤ 40)) = true := hr
      rw [if_neg hr']
      simp only [Bool.not_eq_true] at hr
      rw [hr]; rfl
  · rw [if_neg h, decide_eq_false (show ¬ l.length ≤ 3 by omega)]; rfl
theorem implSpace_l0 (ds ms : List Int) (hm : ms.length = ds.length) (hl : ms.length ≤ 100000) (d : Nat) : ∀ (k i : Nat), i + d = ms.length → d < k → impl_ValidSpace.l0 k ms (ms.length : Int) i ds ms = some (okMx ds ms d i) := by
  induction d with
  | zero =>
    intro k i hi hk
    obtain ⟨k, rfl⟩ : ∃ m, k = m + 1 := ⟨k - 1, by omega⟩
    simp only [impl_ValidSpace.l0]
    rw [if_neg (by omega)]
    rfl
  | succ d ih =>
    intro k i hi hk
    obtain ⟨k, rfl⟩ : ∃ m, k = m + 1 := ⟨k - 1, by omega⟩
    have h := ih k (i + 1) (by omega) (by omega)
    rw [show ((i + 1 : Nat) : Int) = (i : Int) + 1 by omega] at h
    have q0 : (i : Int) < (ds.length : Int) := by omega
    simp only [impl_ValidSpace.l0]
    rw [if_pos (by omega), if_pos (by omega), if_pos (by omega), w64 (x := (i : Int) + 1) (by omega) (by omega), h, within_eq]
    simp only [obind, okMx, if_pos q0]
    by_cases h1 : rd ms i = -1
    · rw [if_pos h1]; simp [h1]
    · rw [if_neg h1]
      by_cases h2 : rd ds i ≤ rd ms i ∧ rd ms i ≤ 40
      · rw [decide_eq_true h2]; simp
      · rw [decide_eq_false h2]; simp [h1]
theorem implSpaceOk_eq (ds ms : List Int) (k : Nat) (hk : 10 < k) : impl_ValidSpace.f k ds ms = some (okSpace ds ms) := by
  unfold impl_ValidSpace.f okSpace
  obtain ⟨k, rfl⟩ : ∃ m, k = m + 1 := ⟨k - 1, by omega⟩
  rw [implDims_eq ds (k + 1) (by omega)]
  simp only [obind, impl_ValidSpace.j0]
  by_cases h : okDims ds = true
  · have hl : ds.length ≤ 3 := by
      unfold okDims at h
      simp only [Bool.and_eq_true, decide_eq_true_eq] at h
      exact h.1
    rw [if_pos h, h]
    by_cases hm : ms.length = ds.length
    · have h0 := implSpace_l0 ds ms hm (by omega) ms.length k 0 (by omega) (by omega)
      rw [show ((0 : Nat) : Int) = 0 from rfl] at h0
      have hb : ((ms.length : Int) != (ds.length : Int)) = false := by rw [hm]; simp
      rw [hb, h0, decide_eq_true hm]
      simp
    · have hb : ((ms.length : Int) != (ds.length : Int)) = true := by
        have : (ms.length : Int) ≠ (ds.length : Int) := by omega
        simpa using this
      rw [hb, decide_eq_false hm]
      simp
  · rw [if_neg h]; simp [h]

/-! ### eqInt64 -/
theorem eqInt64S_self (l : List Int) (hl : l.length ≤ 1099511627776) (d : Nat) : ∀ (k i : Nat), i + d = l.length → d < k → laws_eqInt64S.l0 k l l i = some true := by
  induction d with
  | zero =>
    intro k i hi hk
    obtain ⟨k, rfl⟩ : ∃ m, k = m + 1 := ⟨k - 1, by omega⟩
    simp only [laws_eqInt64S.l0]
    rw [if_neg (by omega)]
  | succ d ih =>
    intro k i hi hk
    obtain ⟨k, rfl⟩ : ∃ m, k = m + 1 := ⟨k - 1, by omega⟩
    simp only [laws_eqInt64S.l0]
    rw [if_pos (by omega), if_pos (by omega), if_pos (by omega), w64 (x := (i : Int) + 1) (by omega) (by omega), if_pos trivial]
    exact ih k (i + 1) (by omega) (by omega)
theorem eqInt64S_refl (l : List Int) (hl : l.length ≤ 1099511627776) (k : Nat) (hk : l.length < k) : laws_eqInt64S.f k l l = some true := by
  unfold laws_eqInt64S.f
  rw [if_pos rfl]
  exact eqInt64S_self l hl l.length k 0 (by omega) hk

/-! ### markInt64 -/
def intsFrom (m : Int) : Nat → List Int
  | 0 => []
  | d + 1 => m :: intsFrom (m + 1) d
theorem intsFrom_length : ∀ (m : Int) (d : Nat), (intsFrom m d).length = d
  | _, 0 => rfl
  | m, d + 1 => by simp [intsFrom, intsFrom_length (m + 1) d]
theorem markInt64S_l0 (d : Nat) : ∀ (k : Nat) (a b : List Int) (m : Int), b.length = d → d < k → a.length + d ≤ 1099511627776 → 0 ≤ m → m + d ≤ 9223372036854775000 →
    laws_markInt64S.l0 k (a ++ b) m a.length = some (m + d, a ++ intsFrom m d) := by
  induction d with
  | zero =>
    intro k a b m hb hk hl h0 h1
    obtain ⟨k, rfl⟩ : ∃ m, k = m + 1 := ⟨k - 1, by omega⟩
    obtain rfl : b = [] := List.eq_nil_of_length_eq_zero hb
    simp only [laws_markInt64S.l0]
    rw [if_neg (by simp)]
    simp [intsFrom]
  | succ d ih =>
    intro k a b m hb hk hl h0 h1
    obtain ⟨k, rfl⟩ : ∃ m, k = m + 1 := ⟨k - 1, by omega⟩
    match b, hb with
    | x :: b, hb =>
    have hset : (a ++ x :: b).set (a.length : Int).toNat m = a ++ m :: b := by simp
    have hi := ih k (a ++ [m]) b (m + 1) (by simpa using hb) (by omega) (by simp; omega) (by omega) (by omega)
    rw [List.append_assoc, List.singleton_append, List.append_assoc, List.singleton_append, show ((a ++ [m]).length : Int) = (a.length : Int) + 1 by simp] at hi
    simp only [laws_markInt64S.l0]
    rw [if_pos (by simp; omega), if_pos (by omega), hset, w64 (x := m + 1) (by omega) (by omega), w64 (x := (a.length : Int) + 1) (by omega) (by omega), hi]
    rw [show m + 1 + (d : Int) = m + ((d + 1 : Nat) : Int) by omega]
    rfl
theorem heldInt64S_l0 (d : Nat) : ∀ (k : Nat) (a : List Int) (m : Int), d < k → a.length + d ≤ 1099511627776 → 0 ≤ m → m + d ≤ 9223372036854775000 →
    laws_heldInt64S.l0 k (a ++ intsFrom m d) m a.length = some (m + d) := by
  induction d with
  | zero =>
    intro k a m hk hl h0 h1
    obtain ⟨k, rfl⟩ : ∃ m, k = m + 1 := ⟨k - 1, by omega⟩
    simp only [laws_heldInt64S.l0]
    rw [if_neg (by simp [intsFrom])]
    simp
  | succ d ih =>
    intro k a m hk hl h0 h1
    obtain ⟨k, rfl⟩ : ∃ m, k = m + 1 := ⟨k - 1, by omega⟩
    have hi := ih k (a ++ [m]) (m + 1) (by omega) (by simp; omega) (by omega) (by omega)
    rw [List.append_assoc, List.singleton_append, show ((a ++ [m]).length : Int) = (a.length : Int) + 1 by simp] at hi
    have hrd : rd (a ++ m :: intsFrom (m + 1) d) (a.length : Int) = m := by simp [rd]
    rw [show intsFrom m (d + 1) = m :: intsFrom (m + 1) d from rfl]
    simp only [laws_heldInt64S.l0]
    rw [if_pos (by simp; omega), if_pos (by omega), hrd, if_pos rfl, w64 (x := m + 1) (by omega) (by omega), w64 (x := (a.length : Int) + 1) (by omega) (by omega), hi]
    congr 1
    omega
theorem markInt64S_f (l : List Int) (m : Int) (hl : l.length ≤ 1099511627776) (k : Nat) (hk : l.length < k) (h0 : 0 ≤ m) (h1 : m + l.length ≤ 9223372036854775000) : laws_markInt64S.f k l m = some (m + (l.length : Int), intsFrom m l.length) := by
  unfold laws_markInt64S.f
  exact markInt64S_l0 l.length k [] l m rfl hk (by simpa using hl) h0 h1
theorem heldInt64S_f (n : Nat) (m : Int) (hl : n ≤ 1099511627776) (k : Nat) (hk : n < k) (h0 : 0 ≤ m) (h1 : m + n ≤ 9223372036854775000) : laws_heldInt64S.f k (intsFrom m n) m = some (m + (n : Int)) := by
  unfold laws_heldInt64S.f
  exact heldInt64S_l0 n k [] m hk (by simpa using hl) h0 h1

/-! ### shrBytes -/
theorem shr_bytes (n : Int) (j : Nat) (h : j < 8) : shr .i64 n (8 * (j : Int)) = n / 256 ^ j := by
  unfold shr
  rw [show min (8 * (j : Int)).toNat IntKind.i64.bits = 8 * j by simp [IntKind.bits]; omega, pow256]

/-! ### putUModel -/
def putU (n a : Int) : ByteArray := if 1 ≤ a ∧ a ≤ 8 ∧ 0 ≤ n ∧ (a < 8 → n / 256 ^ a.toNat = 0) then strOfNums (bytesN n a.toNat) else ⟨#[]⟩
theorem shr_all (n a : Int) (h0 : 0 ≤ a) (h8 : a < 8) : shr .i64 n (8 * a) = n / 256 ^ a.toNat := by
  obtain ⟨j, rfl⟩ := Int.eq_ofNat_of_zero_le h0
  exact shr_bytes n j (by omega)

/-! ### specBytes -/
theorem and255_eq (x : Int) : Go.bits .and .i64 x 255 % 256 = x % 256 := by
  have := bits_and_mask .i64 x 8 (by decide)
  rw [show (2 : Int) ^ 8 - 1 = 255 by rfl, wrap_i64', w64 (by omega) (by omega)] at this
  rw [this]
  omega
theorem specBytes_l0 (n : Int) (D : Nat) (hD : D ≤ 8) (d : Nat) : ∀ (k i : Nat), i + d = D → d < k → spec_l01Bytes.l0 k n D (bytesN n i) i = some (strOfNums (bytesN n D)) := by
  induction d with
  | zero =>
    intro k i hi hk
    obtain ⟨k, rfl⟩ : ∃ m, k = m + 1 := ⟨k - 1, by omega⟩
    simp only [spec_l01Bytes.l0]
    rw [if_neg (by omega), show i = D by omega]
  | succ d ih =>
    intro k i hi hk
    obtain ⟨k, rfl⟩ : ∃ m, k = m + 1 := ⟨k - 1, by omega⟩
    simp only [spec_l01Bytes.l0]
    have hu : IntKind.u64.wrap (i : Int) = i := by rw [wrap_u64]; omega
    have hu8 : IntKind.u64.wrap (8 * (i : Int)) = 8 * i := by rw [wrap_u64]; omega
    rw [if_pos (by omega), hu, hu8, if_pos (by omega), if_pos (by simp [bytesN_length]; omega), w64 (x := (i : Int) + 1) (by omega) (by omega), shr_bytes n i (by omega), and255_eq, ← bytesN_succ]
    exact ih k (i + 1) (by omega) (by omega)
theorem specBytes_eq (n a : Int) (h0 : 0 ≤ a) (h1 : a ≤ 8) (k : Nat) (hk : 8 < k) : spec_l01Bytes.f k n a = some (strOfNums (bytesN n a.toNat)) := by
  unfold spec_l01Bytes.f
  obtain ⟨D, rfl⟩ := Int.eq_ofNat_of_zero_le h0
  exact specBytes_l0 n D (by omega) D k 0 (by omega) (by omega)

/-! ### specPutUint -/
theorem specPutUint_eq (n a : Int) (ha : -9223372036854775808 ≤ a ∧ a ≤ 9223372036854775807) (k : Nat) (hk : 8 < k) : spec_l01PutUint.f k n a = some (putU n a) := by
  unfold spec_l01PutUint.f putU
  simp only [l00In_eq, obind, decide_eq_true_eq]
  by_cases h : 1 ≤ a ∧ a ≤ 8
  · have hu : IntKind.u64.wrap a = a := by rw [wrap_u64]; omega
    have hu8 : IntKind.u64.wrap (8 * a) = 8 * a := by rw [wrap_u64]; omega
    rw [if_pos h]
    by_cases hn : n < 0
    · rw [if_pos hn, if_neg (by omega)]
    · rw [if_neg hn]
      by_cases h8 : a < 8
      · rw [if_pos h8, hu, hu8, if_pos (by omega), shr_all n a (by omega) h8]
        by_cases hz : n / 256 ^ a.toNat = 0
        · rw [if_pos hz, specBytes_eq n a (by omega) (by omega) k hk, if_pos ⟨h.1, h.2, by omega, fun _ => hz⟩]
          simp only [obind]
        · rw [if_neg hz, if_neg (fun hh => hz (hh.2.2.2 h8))]
      · rw [if_neg h8, specBytes_eq n a (by omega) (by omega) k hk, if_pos ⟨h.1, h.2, by omega, fun hh => absurd hh h8⟩]
        simp only [obind]
  · rw [if_neg h, if_neg (fun hh => h ⟨hh.1, hh.2.1⟩)]

/-! ### putUByte -/
theorem putU_byte (n : Int) (h0 : 0 ≤ n) (h1 : n ≤ 255) (k : Nat) (hk : 8 < k) : spec_l01PutUint.f k n 1 = some (strOfNums (bytesN n 1)) := by
  rw [specPutUint_eq n 1 (by omega) k hk]
  unfold putU
  rw [if_pos ⟨by omega, by omega, h0, fun _ => by show n / 256 ^ 1 = 0; omega⟩]
  rfl

/-! ### cut -/
theorem cut_yes (s : ByteArray) (a n : Int) (hs : s.size ≤ 140737488351232) (h0 : 0 ≤ n) (h1 : 0 ≤ a) (h2 : a + n ≤ s.size) :
    impl_cut.f s a n = some (s.extract a.toNat (a + n).toNat, true) := by
  unfold impl_cut.f
  rw [if_neg (by omega), w64 (by omega) (by omega), within_eq, w64 (by omega) (by omega)]
  simp only [obind]
  rw [if_pos (by simp; omega), if_pos h1, if_pos (by omega), if_pos h2]
theorem cut_no (s : ByteArray) (a n : Int) (hs : s.size ≤ 140737488351232) (hn : -9223372036854775808 ≤ n ∧ n ≤ 9223372036854775807)
    (h : n < 0 ∨ a < 0 ∨ s.size < a + n) : impl_cut.f s a n = some ((⟨#[]⟩ : ByteArray), false) := by
  unfold impl_cut.f
  by_cases hn0 : n < 0
  · rw [if_pos hn0]
  · rw [if_neg hn0, w64 (by omega) (by omega), within_eq]
    simp only [obind]
    rw [if_neg (by simp; omega)]

/-! ### getBits -/
theorem getBits_l0 (s : ByteArray) (hs : s.size ≤ 8) (d : Nat) : ∀ (k i : Nat), i + d = s.size → d < k →
    impl_getBits.l0 k s (le s 0 i) s.size i = some (le s 0 s.size) := by
  induction d with
  | zero =>
    intro k i hi hk
    obtain ⟨k, rfl⟩ : ∃ m, k = m + 1 := ⟨k - 1, by omega⟩
    simp only [impl_getBits.l0]
    rw [if_neg (by omega), show i = s.size by omega]
  | succ d ih =>
    intro k i hi hk
    obtain ⟨k, rfl⟩ : ∃ m, k = m + 1 := ⟨k - 1, by omega⟩
    simp only [impl_getBits.l0]
    rw [if_pos (by omega), if_pos (by omega), if_pos (by omega), w64 (x := 8 * (i : Int)) (by omega) (by omega), if_pos (by omega), w64 (x := (i : Int) + 1) (by omega) (by omega)]
    obtain ⟨b0, b1⟩ := bt_range s i
    obtain ⟨l0, l1⟩ := le_bd s 0 i
    rw [wrap_u64, Int.emod_eq_of_lt b0 (by omega)]
    rw [or_shl_byte (le s 0 i) (bt s i) i (by omega) l0 l1 b0 b1]
    have := ih k (i + 1) (by omega) (by omega)
    rw [← this]
    simp [le]
theorem getBits_eq (s : ByteArray) (hs : s.size ≤ 8) (k : Nat) (hk : 8 < k) : impl_getBits.f k s = some (le s 0 s.size) := by
  unfold impl_getBits.f
  exact getBits_l0 s hs s.size k 0 (by omega) (by omega)

/-! ### decoder -/
theorem extract_all_size (s : ByteArray) (i : Nat) : (s.extract i s.size).size = s.size - i := by rw [size_extract _ _ _ (Nat.le_refl _)]
theorem take_yes (r : ByteArray) (b : Bool) (n : Int) (hr : r.size ≤ 140737488351232) (h0 : 0 ≤ n) (h1 : n ≤ r.size) :
    impl_decoder_take.f r b n = some (r.extract 0 n.toNat, r.extract n.toNat r.size, b) := by
  unfold impl_decoder_take.f
  rw [cut_yes r 0 n hr h0 (by omega) (by omega)]
  simp only [obind, if_true]
  rw [if_pos h0, if_pos h1, Int.zero_add]
  rfl
theorem take_no (r : ByteArray) (b : Bool) (n : Int) (hr : r.size ≤ 140737488351232) (hn : -9223372036854775808 ≤ n ∧ n ≤ 9223372036854775807) (h : n < 0 ∨ r.size < n) :
    impl_decoder_take.f r b n = some ((⟨#[]⟩ : ByteArray), r, true) := by
  unfold impl_decoder_take.f
  rw [cut_no r 0 n hr hn (by omega)]
  simp only [obind]
  rw [if_neg (by simp)]
theorem number_yes (r : ByteArray) (b : Bool) (n : Int) (hr : r.size ≤ 140737488351232) (h0 : 0 ≤ n) (h8 : n ≤ 8) (h1 : n ≤ r.size) (k : Nat) (hk : 8 < k) :
    impl_decoder_number.f k r b n = some (wrap64 (le r 0 n.toNat), r.extract n.toNat r.size, b) := by
  unfold impl_decoder_number.f
  rw [take_yes r b n hr h0 h1]
  have hs : (r.extract 0 n.toNat).size = n.toNat := by rw [size_extract _ _ _ (by omega)]; omega
  simp only [obind]
  rw [getBits_eq _ (by omega) k hk, hs, le_extract r 0 n.toNat (by omega) n.toNat (by omega)]
  simp only [obind]
  rfl
theorem number_no (r : ByteArray) (b : Bool) (n : Int) (hr : r.size ≤ 140737488351232) (hn : -9223372036854775808 ≤ n ∧ n ≤ 9223372036854775807) (h : n < 0 ∨ r.size < n) (k : Nat) (hk : 8 < k) :
    impl_decoder_number.f k r b n = some (0, r, true) := by
  unfold impl_decoder_number.f
  rw [take_no r b n hr hn h]
  simp only [obind]
  rw [getBits_eq (⟨#[]⟩ : ByteArray) (Nat.zero_le _) k hk]
  simp only [obind]
  show some (wrap64 0, r, true) = _
  rw [w64 (by omega) (by omega)]
theorem byte_yes (r : ByteArray) (b : Bool) (hr : r.size ≤ 140737488351232) (h1 : 0 < r.size) (k : Nat) (hk : 8 < k) : impl_decoder_byte.f k r b = some (bt r 0, r.extract 1 r.size, b) := by
  unfold impl_decoder_byte.f
  rw [number_yes r b 1 hr (by omega) (by omega) (by omega) k hk]
  simp only [obind]
  obtain ⟨b0, b1⟩ := bt_range r 0
  have e : le r 0 (1 : Int).toNat = bt r 0 := by
    show le r 0 1 = _
    simp [le]
  rw [e, w64 (by omega) (by omega)]
  rfl
theorem byte_no (r : ByteArray) (b : Bool) (h1 : r.size = 0) (k : Nat) (hk : 8 < k) : impl_decoder_byte.f k r b = some (0, r, true) := by
  unfold impl_decoder_byte.f
  rw [number_no r b 1 (by omega) (by omega) (by omega) k hk]
  simp only [obind]

/-! ### extracts -/
theorem extract_tail (s : ByteArray) (i j : Nat) (h : i + j ≤ s.size) : (s.extract i s.size).extract j (s.extract i s.size).size = s.extract (i + j) s.size := by
  have h0 := extract_all_size s i
  have h1 := extract_all_size s (i + j)
  apply ba_ext
  · rw [extract_all_size, h0, h1]; omega
  · intro q hq
    rw [extract_all_size, h0] at hq
    rw [bt_extract _ j _ q (by omega) (by omega) (Nat.le_refl _), show ((j : Int) + q) = ((j + q : Nat) : Int) by omega, bt_extract s i s.size _ (by omega) (by omega) (Nat.le_refl _), bt_extract s (i + j) s.size q (by omega) (by omega) (Nat.le_refl _)]
    congr 1
    omega
theorem extract_head (s : ByteArray) (i j : Nat) (h : i + j ≤ s.size) : (s.extract i s.size).extract 0 j = s.extract i (i + j) := by
  have h0 := extract_all_size s i
  apply ba_ext
  · rw [size_extract _ _ _ (by omega), size_extract _ _ _ h]; omega
  · intro q hq
    rw [size_extract _ _ _ (by omega)] at hq
    rw [bt_extract _ 0 _ q (by omega) (by omega) (by omega), show (((0 : Nat) : Int) + q) = q by omega, bt_extract s i s.size _ (by omega) (by omega) (Nat.le_refl _), bt_extract s i (i + j) q (by omega) (by omega) h]
theorem extract_whole (s : ByteArray) : s.extract 0 s.size = s := by
  apply ba_ext
  · rw [extract_all_size]; rfl
  · intro q hq
    rw [extract_all_size] at hq
    rw [bt_extract s 0 s.size q (by omega) (by omega) (Nat.le_refl _)]
    congr 1
    omega
theorem bt_tail0 (s : ByteArray) (i : Nat) (h : i < s.size) : bt (s.extract i s.size) 0 = bt s i := by
  have := bt_extract s i s.size 0 (by omega) (by omega) (Nat.le_refl _)
  rw [this]
  congr 1
theorem extract_none (s : ByteArray) (i : Nat) (h : i ≤ s.size) : s.extract i i = (⟨#[]⟩ : ByteArray) := by
  apply ba_ext
  · rw [size_extract _ _ _ h, Nat.sub_self]; rfl
  · intro q hq
    rw [size_extract _ _ _ h] at hq
    omega

/-! ### decByte -/
theorem dec_byte (s : ByteArray) (i : Nat) (b : Bool) (hs : s.size ≤ 140737488351232) (hi : i ≤ s.size) : ∃ (v : Int) (i' : Nat) (b' : Bool), i' ≤ s.size ∧ 0 ≤ v ∧ v ≤ 255 ∧ (b = true → b' = true) ∧
    (∀ k : Nat, 8 < k → impl_decoder_byte.f k (s.extract i s.size) b = some (v, s.extract i' s.size, b')) ∧ (i < s.size → v = bt s i ∧ i' = i + 1 ∧ b' = b) ∧ (s.size ≤ i → v = 0 ∧ i' = i ∧ b' = true) := by
  have hz := extract_all_size s i
  by_cases h : i < s.size
  · obtain ⟨b0, b1⟩ := bt_range s i
    refine ⟨bt s i, i + 1, b, by omega, b0, b1, fun h => h, fun k hk => ?_, fun _ => ⟨rfl, rfl, rfl⟩, fun _ => by omega⟩
    rw [byte_yes _ b (by omega) (by omega) k hk, bt_tail0 s i h, extract_tail s i 1 (by omega)]
  · refine ⟨0, i, true, hi, by omega, by omega, fun _ => rfl, fun k hk => ?_, fun _ => by omega, fun _ => ⟨rfl, rfl, rfl⟩⟩
    rw [byte_no _ b (by omega) k hk]

/-! ### byteText -/
theorem byteText (s : ByteArray) (a : Nat) (h : a < s.size) : strOfNums (bytesN (bt s a) 1) = s.extract a (a + 1) := by
  have h0 := bytes_le s a 1 (by omega)
  have : le s a 1 = bt s a := by simp [le]
  rw [this] at h0
  exact h0
theorem ext_app (s : ByteArray) (a b c : Nat) (h : a ≤ b) (h2 : b ≤ c) : s.extract a b ++ s.extract b c = s.extract a c := by
  rw [ByteArray.extract_append_extract, Nat.min_eq_left h, Nat.max_eq_right h2]
theorem ba_toList {s t : ByteArray} (h : s.toList = t.toList) : s = t := by
  rw [Go.ByteArray.toList_eq, Go.ByteArray.toList_eq] at h
  exact ByteArray.ext (Array.ext' h)

def most (x : Int) : Int := if x = 255 then -1 else x
def dimsTo (s : ByteArray) (m : Nat) : List Int := (List.range m).map fun i : Nat => bt s (1 + 2 * i : Nat)
def maxsTo (s : ByteArray) (m : Nat) : List Int := (List.range m).map fun i : Nat => most (bt s (2 + 2 * i : Nat))
theorem dimsTo_length (s : ByteArray) (m : Nat) : (dimsTo s m).length = m := by simp [dimsTo]
theorem maxsTo_length (s : ByteArray) (m : Nat) : (maxsTo s m).length = m := by simp [maxsTo]
theorem dimsTo_succ (s : ByteArray) (m : Nat) : dimsTo s (m + 1) = dimsTo s m ++ [bt s (1 + 2 * m : Nat)] := by simp [dimsTo, List.range_succ]
theorem maxsTo_succ (s : ByteArray) (m : Nat) : maxsTo s (m + 1) = maxsTo s m ++ [most (bt s (2 + 2 * m : Nat))] := by simp [maxsTo, List.range_succ]
theorem rd_dims (s : ByteArray) (m i : Nat) (h : i < m) : rd (dimsTo s m) (i : Int) = bt s (1 + 2 * i : Nat) := by simp [rd, dimsTo, h]
theorem rd_maxs (s : ByteArray) (m i : Nat) (h : i < m) : rd (maxsTo s m) (i : Int) = most (bt s (2 + 2 * i : Nat)) := by simp [rd, maxsTo, h]
theorem enc_l0 (s p : ByteArray) (hs : s.size ≤ 1048576) (hp : p.size = 1) (n : Nat) (hn : 1 + 2 * n ≤ s.size) (d : Nat) : ∀ (k i : Nat), i + d = n → d + 20 < k →
    spec_EncodeSpace.l0 k (p ++ s.extract 1 (1 + 2 * i)) i (dimsTo s n) (maxsTo s n) = some (p ++ s.extract 1 (1 + 2 * n)) := by
  induction d with
  | zero =>
    intro k i hi hk
    obtain ⟨k, rfl⟩ : ∃ m, k = m + 1 := ⟨k - 1, by omega⟩
    obtain rfl : i = n := by omega
    simp only [spec_EncodeSpace.l0, dimsTo_length]
    rw [if_neg (by omega)]
  | succ d ih =>
    intro k i hi hk
    obtain ⟨k, rfl⟩ : ∃ m, k = m + 1 := ⟨k - 1, by omega⟩
    have h := ih k (i + 1) (by omega) (by omega)
    obtain ⟨x0, x1⟩ := bt_range s (1 + 2 * i : Nat)
    obtain ⟨y0, y1⟩ := bt_range s (2 + 2 * i : Nat)
    have e1 := byteText s (1 + 2 * i) (by omega)
    have e2 := byteText s (2 + 2 * i) (by omega)
    have hc : p ++ s.extract 1 (1 + 2 * i) ++ (s.extract (1 + 2 * i) (1 + 2 * i + 1) ++ s.extract (2 + 2 * i) (2 + 2 * i + 1)) = p ++ s.extract 1 (1 + 2 * (i + 1)) := by
      rw [ByteArray.append_assoc, show 2 + 2 * i = 1 + 2 * i + 1 by omega, ext_app s _ _ _ (by omega) (by omega), ext_app s _ _ _ (by omega) (by omega)]
      rw [show 1 + 2 * i + 1 + 1 = 1 + 2 * (i + 1) by omega]
    have hz1 : (s.extract 1 (1 + 2 * i)).size = 2 * i := by rw [size_extract _ _ _ (by omega)]; omega
    have q1 : (s.extract (1 + 2 * i) (1 + 2 * i + 1)).size = 1 := by rw [size_extract _ _ _ (by omega)]; omega
    have q2 : (s.extract (2 + 2 * i) (2 + 2 * i + 1)).size = 1 := by rw [size_extract _ _ _ (by omega)]; omega
    simp only [spec_EncodeSpace.l0, dimsTo_length, maxsTo_length]
    rw [rd_dims s n i (by omega), rd_maxs s n i (by omega), if_pos (by omega), if_pos (by omega), if_pos (by omega), w64 (x := (i : Int) + 1) (by omega) (by omega), putU_byte _ x0 x1 k (by omega)]
    unfold most
    by_cases hy : bt s (2 + 2 * i : Nat) = 255
    · rw [hy] at e2
      rw [if_pos hy, if_pos rfl, putU_byte 255 (by omega) (by omega) k (by omega)]
      simp only [obind]
      rw [e1, e2, hc]
      simp only [ByteArray.size_append, q1, q2, hz1, hp]
      rw [if_pos (by omega), if_pos (by omega)]
      exact h
    · rw [if_neg hy, if_neg (by omega), putU_byte _ y0 y1 k (by omega)]
      simp only [obind]
      rw [e1, e2, hc]
      simp only [ByteArray.size_append, q1, q2, hz1, hp]
      rw [if_pos (by omega), if_pos (by omega)]
      exact h
theorem okSpace_len {ds ms : List Int} (h : okSpace ds ms = true) : ds.length ≤ 3 := by
  unfold okSpace okDims at h
  simp only [Bool.and_eq_true, decide_eq_true_eq] at h
  exact h.1.1
/-- A dataspace's bytes are these. -/
def isSp (s : ByteArray) (n : Nat) : Prop := okSpace (dimsTo s n) (maxsTo s n) = true ∧ s.size = 1 + 2 * n ∧ bt s 0 = n
instance (s : ByteArray) (n : Nat) : Decidable (isSp s n) := by unfold isSp; infer_instance
def noSp : List Int × List Int × Bool := ([], [], false)
def finSp (s : ByteArray) (n : Nat) : List Int × List Int × Bool := if isSp s n then (dimsTo s n, maxsTo s n, true) else noSp
theorem spec_fin (s : ByteArray) (hs : s.size ≤ 1048576) (m : Nat) (hm : m ≤ 10) (hz : m = 0 ∨ 1 + 2 * m ≤ s.size) (k : Nat) (hk : 60 < k) :
    (if s.toList = ([] : List UInt8) then (some (([] : List Int), ([] : List Int), false)) else ((spec_EncodeSpace.f k (dimsTo s m) (maxsTo s m)).bind fun t140 => (if t140.toList = s.toList then (some (dimsTo s m, maxsTo s m, true)) else (some (([] : List Int), ([] : List Int), false))))) = some (finSp s m) := by
  unfold finSp
  by_cases h0 : s.toList = ([] : List UInt8)
  · rw [if_pos h0, if_neg (fun h => by have := (toList_nil s).1 h0; have := h.2.1; omega)]
    rfl
  · rw [if_neg h0]
    have hpos : 0 < s.size := Nat.pos_of_ne_zero fun h => h0 ((toList_nil s).2 h)
    have hz' : 1 + 2 * m ≤ s.size := by omega
    unfold spec_EncodeSpace.f
    rw [specSpaceOk_eq _ _ k (by omega)]
    simp only [obind]
    by_cases h1 : okSpace (dimsTo s m) (maxsTo s m) = true
    · rw [if_pos h1, dimsTo_length, putU_byte _ (by omega) (by omega) k (by omega)]
      simp only [obind]
      have hp : (strOfNums (bytesN (m : Int) 1)).size = 1 := by rw [size_ofNums, bytesN_length]
      have he := enc_l0 s (strOfNums (bytesN (m : Int) 1)) hs hp m hz' m k 0 (by omega) (by omega)
      rw [show 1 + 2 * 0 = 1 from rfl, extract_none s 1 (by omega), show ((0 : Nat) : Int) = 0 from rfl] at he
      rw [show strOfNums (bytesN (m : Int) 1) ++ (⟨#[]⟩ : ByteArray) = strOfNums (bytesN (m : Int) 1) from ByteArray.append_empty] at he
      rw [he]
      simp only [obind]
      have hsz : (strOfNums (bytesN (m : Int) 1) ++ s.extract 1 (1 + 2 * m)).size = 1 + 2 * m := by rw [ByteArray.size_append, hp, size_extract _ _ _ (by omega)]; omega
      by_cases h2 : s.size = 1 + 2 * m ∧ bt s 0 = m
      · have hb := byteText s 0 (by omega)
        rw [show ((0 : Nat) : Int) = 0 from rfl, h2.2] at hb
        have hall : strOfNums (bytesN (m : Int) 1) ++ s.extract 1 (1 + 2 * m) = s := by
          rw [hb, ext_app s _ _ _ (by omega) (by omega), ← h2.1, extract_whole]
        rw [hall, if_pos rfl, if_pos ⟨h1, h2.1, h2.2⟩]
      · have hne : ¬ (strOfNums (bytesN (m : Int) 1) ++ s.extract 1 (1 + 2 * m)).toList = s.toList := by
          intro h
          have he2 := ba_toList h
          refine h2 ⟨by rw [← he2, hsz], ?_⟩
          have h3 := bt_append_left (strOfNums (bytesN (m : Int) 1)) (s.extract 1 (1 + 2 * m)) 0 (by omega)
          rw [he2, bt_ofNums (bytesN_bd _ _) 0 (by rw [bytesN_length]; omega), bytesN_at] at h3
          rw [show ((0 : Nat) : Int) = 0 from rfl] at h3
          rw [h3]
          simp
          omega
        rw [if_neg hne, if_neg (fun h => h2 ⟨h.2.1, h.2.2⟩)]
        rfl
    · rw [if_neg h1]
      simp only [obind]
      have hne : ¬ (⟨#[]⟩ : ByteArray).toList = s.toList := by
        intro h
        have e0 : (⟨#[]⟩ : ByteArray).toList = ([] : List UInt8) := (toList_nil _).2 rfl
        rw [e0] at h
        exact h0 (Eq.symm h)
      rw [if_neg hne, if_neg (fun h => h1 h.1)]
      rfl
theorem spec_space (s : ByteArray) (hs : s.size ≤ 1048576) (d : Nat) : ∀ (k m : Nat), m + d = 4 → (m = 0 ∨ 1 + 2 * m ≤ s.size) → 2 * d + 100 < k →
    ∃ m', m' ≤ 4 ∧ (m' = 4 ∨ s.size < 3 + 2 * m') ∧ (m' = 0 ∨ 1 + 2 * m' ≤ s.size) ∧ spec_DecodeSpace.l0 k s (1 + 2 * m : Nat) (dimsTo s m) (maxsTo s m) = some (finSp s m') := by
  induction d with
  | zero =>
    intro k m hm hsz hk
    obtain ⟨k, rfl⟩ : ∃ m, k = m + 2 := ⟨k - 2, by omega⟩
    obtain rfl : m = 4 := by omega
    refine ⟨4, by omega, .inl rfl, hsz, ?_⟩
    simp only [spec_DecodeSpace.l0, spec_DecodeSpace.j1]
    rw [dimsTo_length, decide_eq_false (show ¬ (((4 : Nat) : Int) ≤ 3) by omega)]
    simp only [Bool.false_eq_true, if_false]
    rw [spec_fin s hs 4 (by omega) hsz k (by omega)]
    split <;> rfl
  | succ d ih =>
    intro k m hm hsz hk
    obtain ⟨k, rfl⟩ : ∃ m, k = m + 2 := ⟨k - 2, by omega⟩
    simp only [spec_DecodeSpace.l0, spec_DecodeSpace.j1]
    rw [dimsTo_length, w64 (x := ((1 + 2 * m : Nat) : Int) + 1) (by omega) (by omega), decide_eq_true (show ((m : Int) ≤ 3) by omega)]
    by_cases h : ((1 + 2 * m : Nat) : Int) + 1 < s.size
    · obtain ⟨p0, p1⟩ := bt_range s (1 + 2 * m : Nat)
      obtain ⟨q0, q1⟩ := bt_range s (2 + 2 * m : Nat)
      obtain ⟨m', a1, a2, a3, a4⟩ := ih k (m + 1) (by omega) (by omega) (by omega)
      rw [dimsTo_succ, maxsTo_succ, show ((1 + 2 * (m + 1) : Nat) : Int) = ((1 + 2 * m : Nat) : Int) + 2 by omega] at a4
      refine ⟨m', a1, a2, a3, ?_⟩
      rw [← a4, if_pos h]
      simp only [obind, if_true, maxsTo_length]
      rw [show ((1 + 2 * m : Nat) : Int) + 1 = (2 + 2 * m : Nat) by omega, w64 (x := bt s (1 + 2 * m : Nat)) (by omega) (by omega), w64 (x := bt s (2 + 2 * m : Nat)) (by omega) (by omega), w64 (x := ((1 + 2 * m : Nat) : Int) + 2) (by omega) (by omega)]
      rw [if_pos (by omega), if_pos (by omega), if_pos (by omega), if_pos (by omega), if_pos (by omega)]
      unfold most
      by_cases hy : bt s (2 + 2 * m : Nat) = 255
      · rw [if_pos hy, if_pos hy, if_pos (by omega)]
      · rw [if_neg hy, if_neg hy, if_pos (by omega)]
    · rw [if_neg h]
      simp only [Bool.false_eq_true, if_false]
      rw [spec_fin s hs m (by omega) hsz k (by omega)]
      exact ⟨m, by omega, by omega, hsz, rfl⟩
theorem impl_bad (r : ByteArray) (n : Int) (ds ms : List Int) (k : Nat) (hk : 2 ≤ k) : impl_decoder_space.l0 k n r true ds ms = some (ds, ms, r, true) := by
  obtain ⟨k, rfl⟩ : ∃ m, k = m + 2 := ⟨k - 2, by omega⟩
  simp [impl_decoder_space.l0, impl_decoder_space.j1]
theorem impl_space (s : ByteArray) (hs : s.size ≤ 1048576) (n : Nat) : ∀ (k m : Nat), 1 + 2 * m ≤ s.size → m + n ≤ 300 → 2 * n + 100 < k →
    ∃ z, impl_decoder_space.l0 k n (s.extract (1 + 2 * m) s.size) false (dimsTo s m) (maxsTo s m) = some z ∧ (1 + 2 * (m + n) ≤ s.size → z = (dimsTo s (m + n), maxsTo s (m + n), s.extract (1 + 2 * (m + n)) s.size, false)) ∧ (s.size < 1 + 2 * (m + n) → z.2.2.2 = true) := by
  induction n with
  | zero =>
    intro k m hm hn hk
    obtain ⟨k, rfl⟩ : ∃ m, k = m + 2 := ⟨k - 2, by omega⟩
    have hz0 : ¬ (((0 : Nat) : Int) > 0) := by omega
    simp only [impl_decoder_space.l0, impl_decoder_space.j1, if_neg hz0, Bool.false_eq_true, if_false]
    exact ⟨_, rfl, fun _ => rfl, fun h => by omega⟩
  | succ n ih =>
    intro k m hm hn hk
    obtain ⟨k, rfl⟩ : ∃ m, k = m + 2 := ⟨k - 2, by omega⟩
    have e1 : wrap64 (((n + 1 : Nat) : Int) - 1) = n := by rw [w64] <;> omega
    have hp : ((n + 1 : Nat) : Int) > 0 := by omega
    have hl := dimsTo_length s m
    have hl2 := maxsTo_length s m
    obtain ⟨v1, i1, b1, hi1, _, _, t1, d1, y1, n1⟩ := dec_byte s (1 + 2 * m) false (by omega) hm
    obtain ⟨v2, i2, b2, hi2, _, _, t2, d2, y2, n2⟩ := dec_byte s i1 b1 (by omega) hi1
    have c1 : (dimsTo s m).length < 17592186044416 := by omega
    have c2 : (maxsTo s m).length < 17592186044416 := by omega
    have hfold : (if v2 = 255 then impl_decoder_space.l0 k n (s.extract i2 s.size) b2 (dimsTo s m ++ [v1]) (maxsTo s m ++ [(-1)]) else impl_decoder_space.l0 k n (s.extract i2 s.size) b2 (dimsTo s m ++ [v1]) (maxsTo s m ++ [v2])) = impl_decoder_space.l0 k n (s.extract i2 s.size) b2 (dimsTo s m ++ [v1]) (maxsTo s m ++ [most v2]) := by
      unfold most
      by_cases h : v2 = 255
      · rw [if_pos h, if_pos h]
      · rw [if_neg h, if_neg h]
    simp only [impl_decoder_space.l0, impl_decoder_space.j1, if_pos hp, Bool.not_false, if_true, e1, d1 k (by omega), d2 k (by omega), obind, if_pos c1, if_pos c2]
    rw [hfold]
    by_cases hc : 1 + 2 * (m + 1) ≤ s.size
    · obtain ⟨rfl, rfl, rfl⟩ := y1 (by omega)
      obtain ⟨rfl, rfl, rfl⟩ := y2 (by omega)
      obtain ⟨z, h1, h2, h3⟩ := ih k (m + 1) hc (by omega) (by omega)
      rw [dimsTo_succ, maxsTo_succ, show 1 + 2 * (m + 1) = 1 + 2 * m + 1 + 1 by omega] at h1
      rw [show 1 + 2 * m + 1 = 2 + 2 * m by omega] at h1 ⊢
      refine ⟨z, h1, fun h => ?_, fun h => h3 (by omega)⟩
      rw [h2 (by omega), show m + 1 + n = m + (n + 1) by omega]
    · have hb : b2 = true := by
        by_cases c1 : 1 + 2 * m < s.size
        · obtain ⟨_, rfl, _⟩ := y1 c1
          exact (n2 (by omega)).2.2
        · exact t2 (n1 (by omega)).2.2
      subst hb
      rw [impl_bad _ _ _ _ _ (by omega)]
      exact ⟨_, rfl, fun h => by omega, fun _ => rfl⟩
theorem space_any (s : ByteArray) (hs : s.size ≤ 1048576) (k : Nat) (hk : 1500 ≤ k) : ∃ r : List Int × List Int × Bool, spec_DecodeSpace.f k s = some r ∧ impl_DecodeSpace.f k s = some r ∧ r.1.length ≤ 300 ∧ r.2.1.length ≤ 300 := by
  unfold spec_DecodeSpace.f impl_DecodeSpace.f impl_decoder_space.f
  obtain ⟨m', a1, a2, a3, a4⟩ := spec_space s hs 4 k 0 (by omega) (.inl rfl) (by omega)
  have e0 : dimsTo s 0 = [] := rfl
  have e1 : maxsTo s 0 = [] := rfl
  rw [e0, e1, show ((1 + 2 * 0 : Nat) : Int) = 1 from rfl] at a4
  obtain ⟨v, i, b, hi, v0, v1, _, d, y, nn⟩ := dec_byte s 0 false (by omega) (by omega)
  have d' := d k (by omega)
  rw [extract_whole] at d'
  rw [a4, d']
  simp only [obind]
  have hlen : (finSp s m').1.length ≤ 300 ∧ (finSp s m').2.1.length ≤ 300 := by
    unfold finSp
    split
    · rw [dimsTo_length, maxsTo_length]; omega
    · exact ⟨Nat.zero_le _, Nat.zero_le _⟩
  refine ⟨_, rfl, ?_, hlen.1, hlen.2⟩
  by_cases h0 : 0 < s.size
  · obtain ⟨rfl, rfl, rfl⟩ := y h0
    obtain ⟨n, hn⟩ := Int.eq_ofNat_of_zero_le v0
    rw [show ((0 : Nat) : Int) = 0 from rfl] at hn v0 v1
    obtain ⟨z, h1, h2, h3⟩ := impl_space s hs n k 0 (by omega) (by omega) (by omega)
    rw [e0, e1, show 1 + 2 * 0 = 1 from rfl, ← hn] at h1
    rw [show ((0 : Nat) : Int) = 0 from rfl, show 0 + 1 = 1 from rfl, h1]
    simp only [obind]
    rw [Nat.zero_add] at h2 h3
    by_cases hc : 1 + 2 * n ≤ s.size
    · rw [h2 hc]
      simp only [Bool.false_eq_true, if_false]
      by_cases hr : s.size = 1 + 2 * n
      · have he : (s.extract (1 + 2 * n) s.size).toList = ([] : List UInt8) := (toList_nil _).2 (by rw [extract_all_size]; omega)
        rw [if_pos he, implSpaceOk_eq _ _ k (by omega)]
        simp only [obind]
        by_cases ho : okSpace (dimsTo s n) (maxsTo s n) = true
        · have h3 := okSpace_len ho
          rw [dimsTo_length] at h3
          have hmn : m' = n := by omega
          rw [if_pos ho, hmn]
          unfold finSp
          rw [if_pos ⟨ho, hr, hn⟩]
        · rw [if_neg ho]
          unfold finSp
          rw [if_neg]
          · rfl
          · intro h
            have : m' = n := by have := h.2.2; omega
            exact ho (this ▸ h.1)
      · have he : ¬ (s.extract (1 + 2 * n) s.size).toList = ([] : List UInt8) := by
          intro h
          have := (toList_nil _).1 h
          rw [extract_all_size] at this
          omega
        rw [if_neg he]
        unfold finSp
        rw [if_neg]
        · rfl
        · intro h
          have h4 := h.2.1
          have h5 := h.2.2
          omega
    · rw [h3 (by omega), if_pos rfl]
      unfold finSp
      rw [if_neg]
      · rfl
      · intro h
        have h4 := h.2.1
        have h5 := h.2.2
        omega
  · obtain ⟨_, _, rfl⟩ := nn (by omega)
    rw [impl_bad _ _ _ _ _ (by omega)]
    simp only [obind, if_true]
    unfold finSp
    rw [if_neg]
    · rfl
    · intro h
      have := h.2.1
      omega
theorem FnExactDecodeSpace : laws_FnExactDecodeSpace.Pure := by
  intro s _
  obtain ⟨K, hK⟩ : ∃ K, 5000 ≤ K := ⟨_, Nat.le_refl _⟩
  refine ⟨K + 2, ?_⟩
  unfold laws_FnExactDecodeSpace.f
  by_cases hs : (s.size : Int) > 1048576
  · rw [if_pos hs]
  · rw [if_neg hs]
    obtain ⟨⟨l, m, ok⟩, h1, h2, h3, h4⟩ := space_any s (by omega) (K + 2) (by omega)
    obtain ⟨⟨l', m', ok'⟩, h1', h2', _⟩ := space_any s (by omega) (K + 1) (by omega)
    have hm := at_rounds (g := fun k => impl_DecodeSpace.f k s) (fun k => impl_DecodeSpace.mono s k) (show K + 1 ≤ K + 2 by omega) h2'
    obtain ⟨rfl, rfl, rfl⟩ : l' = l ∧ m' = m ∧ ok' = ok := by
      have := hm.symm.trans h2
      simpa using this
    simp only at h3 h4
    have eq : ∀ k, 2000 ≤ k → laws_eqSpace.f k l' m' l' m' = some true := fun k hk => by
      unfold laws_eqSpace.f
      rw [eqInt64S_refl l' (by omega) k (by omega)]
      simp only [obind, if_true]
      rw [eqInt64S_refl m' (by omega) k (by omega)]
      rfl
    have mk : ∀ k, 2000 ≤ k → laws_markSpace.f k l' m' 1 = some (1 + (l'.length : Int) + (m'.length : Int), intsFrom 1 l'.length, intsFrom (1 + (l'.length : Int)) m'.length) := fun k hk => by
      unfold laws_markSpace.f
      rw [markInt64S_f l' 1 (by omega) k (by omega) (by omega) (by omega)]
      simp only [obind]
      rw [markInt64S_f m' _ (by omega) k (by omega) (by omega) (by omega)]
      rfl
    have hd : ∀ k, 2000 ≤ k → laws_heldSpace.f k (intsFrom 1 l'.length) (intsFrom (1 + (l'.length : Int)) m'.length) 1 = some (1 + (l'.length : Int) + (m'.length : Int)) := fun k hk => by
      unfold laws_heldSpace.f
      rw [heldInt64S_f l'.length 1 (by omega) k (by omega) (by omega) (by omega)]
      simp only [obind]
      rw [if_neg (by omega), heldInt64S_f m'.length _ (by omega) k (by omega) (by omega) (by omega)]
      simp only [obind]
      rw [if_neg (by omega)]
    have p1 : ¬ (1 + (l'.length : Int) + (m'.length : Int) < 0) := by omega
    have j1 : laws_FnExactDecodeSpace.j1 (K + 1) (1 + (l'.length : Int) + (m'.length : Int)) false (intsFrom 1 l'.length) (intsFrom (1 + (l'.length : Int)) m'.length) = some true := by
      simp only [laws_FnExactDecodeSpace.j1, Bool.false_eq_true, if_false, hd K (by omega), obind, if_neg p1, if_true]
    have j0 : laws_FnExactDecodeSpace.j0 (K + 2) s ok' false l' m' l' m' = some true := by
      simp only [laws_FnExactDecodeSpace.j0, Bool.false_eq_true, if_false, mk (K + 1) (by omega), hd (K + 1) (by omega), h2', eq (K + 1) (by omega), obind, if_neg p1, if_true, bne_self_eq_false]
      exact j1
    simp only [h1, h2, obind, eq (K + 2) (by omega), if_true, bne_self_eq_false]
    exact j0

end Go.Proofs.Ytlcbbiiohhplfab.Pure
