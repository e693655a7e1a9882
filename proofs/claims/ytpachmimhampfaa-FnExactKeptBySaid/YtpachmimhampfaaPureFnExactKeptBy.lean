/- KeptBy of the program answers as the reference's, for all arguments. -/
import Derived.Test.YtpachmimhampfaaKit
import Derived.Test.YtpachmimhampfaaPFnExactKeptByx2
import Derived.Test.YtpachmimhampfaaStmFnExactKeptBy
namespace Go.Proofs.Ytpachmimhampfaa.Pure
open Go.RowKit Go.Proofs.Ytpachmimhampfaa.PFnExactKeptBy Go.Proofs.YtpachmimhampfaaW.PrintWords Go.Proofs.YtpachmimhampfaaW.PrintLast Go.Proofs.Ytpachmimhampfaa.Kit

/-! ### kept -/
def bitAt (m : Int) (i : Int) : Bool := (Go.bits .and .i64 (shr .i64 m (Int.tmod i 30)) 1) == 1
theorem kept_l0 (m t b : Int) (n : Nat) (hn : n ≤ 600) (d : Nat) : ∀ (k i : Nat) (acc : List Bool), i + d = n → d < k → acc.length = i →
    impl_Cut_kept.l0 k acc n i m t b = some (acc ++ (List.range' i d).map (fun j : Nat => bitAt m j)) := by
  induction d with
  | zero =>
    intro k i acc hi hk ha
    obtain ⟨k, rfl⟩ : ∃ m, k = m + 1 := ⟨k - 1, by omega⟩
    simp only [impl_Cut_kept.l0]
    rw [if_neg (by omega)]
    simp
  | succ d ih =>
    intro k i acc hi hk ha
    obtain ⟨k, rfl⟩ : ∃ m, k = m + 1 := ⟨k - 1, by omega⟩
    simp only [impl_Cut_kept.l0]
    have ht := Int.tmod_nonneg 30 (show (0 : Int) ≤ (i : Int) by omega)
    rw [if_pos (by omega), if_pos ht, if_pos (by omega), w64 (x := (i : Int) + 1) (by omega) (by omega)]
    have := ih k (i + 1) (acc ++ [bitAt m i]) (by omega) (by omega) (by simp [ha])
    rw [List.append_assoc] at this
    rw [List.range'_succ, List.map_cons]
    exact this
def keptL (m : Int) (n : Nat) : List Bool := (List.range' 0 n).map (fun j : Nat => bitAt m j)
theorem keptL_length (m : Int) (n : Nat) : (keptL m n).length = n := by simp [keptL]
theorem keptL_at (m : Int) (n : Nat) (i : Int) (h0 : 0 ≤ i) (h1 : i < n) : rdOf false (keptL m n) i = bitAt m i := by
  obtain ⟨j, rfl⟩ := Int.eq_ofNat_of_zero_le h0
  have hj : j < n := by omega
  unfold rdOf keptL
  simp [hj]

/-! ### l00In -/
theorem l00In_eq (a b c : Int) : spec_l00In.f a b c = some (decide (b ≤ a ∧ a ≤ c)) := by
  unfold spec_l00In.f
  by_cases h : b ≤ a
  · rw [if_pos h]; simp [h]
  · rw [if_neg h]; simp [h]

/-! ### specValidCut -/
theorem specValid_eq (a b c : Int) : spec_ValidCut.f a b c = some (decide ((0 ≤ a ∧ a ≤ 1073741823) ∧ (-1 ≤ b ∧ b ≤ 599) ∧ (0 ≤ c ∧ c ≤ 64))) := by
  unfold spec_ValidCut.f
  simp only [l00In_eq, obind, decide_eq_true_eq, ite_and]

/-! ### within -/
theorem within_eq (a b c : Int) : impl_within.f a b c = some (decide (b ≤ a ∧ a ≤ c)) := by
  unfold impl_within.f
  by_cases h : b ≤ a
  · rw [if_pos h]; simp [h]
  · rw [if_neg h]; simp [h]

/-! ### implValidCut -/
theorem implValid_eq (a b c : Int) : impl_ValidCut.f a b c = some (decide ((0 ≤ a ∧ a ≤ 1073741823) ∧ (-1 ≤ b ∧ b ≤ 599) ∧ (0 ≤ c ∧ c ≤ 64))) := by
  unfold impl_ValidCut.f
  simp only [within_eq, obind, decide_eq_true_eq, ite_and]

/-! ### eqBool -/
theorem eqBoolS_self (l : List Bool) (hl : l.length ≤ 1099511627776) (d : Nat) : ∀ (k i : Nat), i + d = l.length → d < k → laws_eqBoolS.l0 k l l i = some true := by
  induction d with
  | zero =>
    intro k i hi hk
    obtain ⟨k, rfl⟩ : ∃ m, k = m + 1 := ⟨k - 1, by omega⟩
    simp only [laws_eqBoolS.l0]
    rw [if_neg (by omega)]
  | succ d ih =>
    intro k i hi hk
    obtain ⟨k, rfl⟩ : ∃ m, k = m + 1 := ⟨k - 1, by omega⟩
    simp only [laws_eqBoolS.l0]
    rw [if_pos (by omega), if_pos (by omega), if_pos (by omega), w64 (x := (i : Int) + 1) (by omega) (by omega), if_neg (by simp)]
    exact ih k (i + 1) (by omega) (by omega)
theorem eqBoolS_refl (l : List Bool) (hl : l.length ≤ 1099511627776) (k : Nat) (hk : l.length < k) : laws_eqBoolS.f k l l = some true := by
  unfold laws_eqBoolS.f
  rw [if_pos rfl]
  exact eqBoolS_self l hl l.length k 0 (by omega) hk

/-! ### markBool -/
def boolsFrom (m : Int) (d : Nat) : List Bool := (List.range d).map fun j : Nat => Int.tmod (m + j) 3 == 0
theorem boolsFrom_succ (m : Int) (d : Nat) : boolsFrom m (d + 1) = (Int.tmod m 3 == 0) :: boolsFrom (m + 1) d := by
  unfold boolsFrom
  rw [List.range_succ_eq_map, List.map_cons, List.map_map]
  congr 1
  · simp
  · apply List.map_congr_left
    intro j _
    show (Int.tmod (m + ((j + 1 : Nat) : Int)) 3 == 0) = (Int.tmod (m + 1 + j) 3 == 0)
    rw [show m + ((j + 1 : Nat) : Int) = m + 1 + j by omega]
theorem markBoolS_l0 (d : Nat) : ∀ (k : Nat) (a b : List Bool) (m : Int), b.length = d → d < k → a.length + d ≤ 1099511627776 → 0 ≤ m → m + d ≤ 9223372036854775000 →
    laws_markBoolS.l0 k (a ++ b) m a.length = some (m + d, a ++ boolsFrom m d) := by
  induction d with
  | zero =>
    intro k a b m hb hk hl h0 h1
    obtain ⟨k, rfl⟩ : ∃ m, k = m + 1 := ⟨k - 1, by omega⟩
    obtain rfl : b = [] := List.eq_nil_of_length_eq_zero hb
    simp only [laws_markBoolS.l0]
    rw [if_neg (by simp)]
    simp [boolsFrom]
  | succ d ih =>
    intro k a b m hb hk hl h0 h1
    obtain ⟨k, rfl⟩ : ∃ m, k = m + 1 := ⟨k - 1, by omega⟩
    match b, hb with
    | x :: b, hb =>
    simp only [laws_markBoolS.l0]
    have hset : ∀ (y z : Bool), (a ++ y :: b).set (a.length : Int).toNat z = a ++ z :: b := fun y z => by simp
    rw [if_pos (by simp; omega), if_pos (by omega), hset, w64 (x := m + 1) (by omega) (by omega), w64 (x := (a.length : Int) + 1) (by omega) (by omega)]
    have := ih k (a ++ [(Int.tmod m 3 == 0)]) b (m + 1) (by simpa using hb) (by omega) (by simp; omega) (by omega) (by omega)
    simp only [List.append_assoc, List.singleton_append, List.length_append, List.length_singleton, Int.natCast_add, Int.cast_ofNat_Int] at this
    rw [this, boolsFrom_succ]
    congr 2
    omega
theorem heldBoolS_l0 (d : Nat) : ∀ (k : Nat) (a : List Bool) (m : Int), d < k → a.length + d ≤ 1099511627776 → 0 ≤ m → m + d ≤ 9223372036854775000 →
    laws_heldBoolS.l0 k (a ++ boolsFrom m d) m a.length = some (m + d) := by
  induction d with
  | zero =>
    intro k a m hk hl h0 h1
    obtain ⟨k, rfl⟩ : ∃ m, k = m + 1 := ⟨k - 1, by omega⟩
    simp only [laws_heldBoolS.l0]
    rw [if_neg (by simp [boolsFrom])]
    simp
  | succ d ih =>
    intro k a m hk hl h0 h1
    obtain ⟨k, rfl⟩ : ∃ m, k = m + 1 := ⟨k - 1, by omega⟩
    rw [boolsFrom_succ]
    simp only [laws_heldBoolS.l0]
    have hrd : rdOf false (a ++ (Int.tmod m 3 == 0) :: boolsFrom (m + 1) d) a.length = (Int.tmod m 3 == 0) := by simp [rdOf]
    rw [if_pos (by simp; omega), if_pos (by omega), hrd, if_neg (by simp), w64 (x := m + 1) (by omega) (by omega), w64 (x := (a.length : Int) + 1) (by omega) (by omega)]
    have := ih k (a ++ [(Int.tmod m 3 == 0)]) (m + 1) (by omega) (by simp; omega) (by omega) (by omega)
    simp only [List.append_assoc, List.singleton_append, List.length_append, List.length_singleton, Int.natCast_add, Int.cast_ofNat_Int] at this
    rw [this]
    congr 1
    omega
theorem markBoolS_f (l : List Bool) (hl : l.length ≤ 1099511627776) (k : Nat) (hk : l.length < k) : laws_markBoolS.f k l 1 = some (1 + (l.length : Int), boolsFrom 1 l.length) := by
  unfold laws_markBoolS.f
  exact markBoolS_l0 l.length k [] l 1 rfl hk (by simpa using hl) (by omega) (by omega)
theorem heldBoolS_f (n : Nat) (hl : n ≤ 1099511627776) (k : Nat) (hk : n < k) : laws_heldBoolS.f k (boolsFrom 1 n) 1 = some (1 + (n : Int)) := by
  unfold laws_heldBoolS.f
  exact heldBoolS_l0 n k [] 1 hk (by simpa using hl) (by omega) (by omega)

theorem specKept_l0 (m t b : Int) (n : Nat) (hn : n ≤ 600) (d : Nat) : ∀ (k i : Nat) (acc : List Bool), i + d = n → d < k → acc.length = i →
    spec_l30Kept.l0 k n acc i m t b = some (acc ++ (List.range' i d).map (fun j : Nat => bitAt m j)) := by
  induction d with
  | zero =>
    intro k i acc hi hk ha
    obtain ⟨k, rfl⟩ : ∃ m, k = m + 1 := ⟨k - 1, by omega⟩
    simp only [spec_l30Kept.l0]
    rw [if_neg (by omega)]
    simp
  | succ d ih =>
    intro k i acc hi hk ha
    obtain ⟨k, rfl⟩ : ∃ m, k = m + 1 := ⟨k - 1, by omega⟩
    simp only [spec_l30Kept.l0]
    have ht := Int.tmod_nonneg 30 (show (0 : Int) ≤ (i : Int) by omega)
    have ht2 := Int.tmod_lt_of_pos (i : Int) (show (0 : Int) < 30 by omega)
    have hu : IntKind.u64.wrap (Int.tmod (i : Int) 30) = Int.tmod i 30 := by rw [wrap_u64]; omega
    rw [if_pos (by omega), hu, if_pos ht, if_pos (by omega), w64 (x := (i : Int) + 1) (by omega) (by omega)]
    have := ih k (i + 1) (acc ++ [bitAt m i]) (by omega) (by omega) (by simp [ha])
    rw [List.append_assoc] at this
    rw [List.range'_succ, List.map_cons]
    exact this
theorem FnExactKeptBy : laws_FnExactKeptBy.Pure := by
  intro a b c n _ _ _ _
  refine ⟨2000, ?_⟩
  have key : ∃ l : List Bool, l.length ≤ 600 ∧ spec_KeptBy.f 2000 a b c n = some l ∧ impl_KeptBy.f 2000 a b c n = some l := by
    unfold spec_KeptBy.f impl_KeptBy.f
    simp only [specValid_eq, implValid_eq, l00In_eq, within_eq, obind, decide_eq_true_eq]
    by_cases hv : (0 ≤ a ∧ a ≤ 1073741823) ∧ (-1 ≤ b ∧ b ≤ 599) ∧ (0 ≤ c ∧ c ≤ 64)
    · simp only [if_pos hv]
      by_cases hw : 0 ≤ n ∧ n ≤ 600
      · simp only [if_pos hw]
        obtain ⟨n, rfl⟩ := Int.eq_ofNat_of_zero_le hw.1
        have h1 : impl_Cut_kept.f 2000 a b c n = some (keptL a n) := by
          unfold impl_Cut_kept.f
          exact kept_l0 a b c n (by omega) n 2000 0 [] (by omega) (by omega) rfl
        have h2 : spec_l30Kept.f 2000 a b c n = some (keptL a n) := by
          unfold spec_l30Kept.f
          exact specKept_l0 a b c n (by omega) n 2000 0 [] (by omega) (by omega) rfl
        simp only [h1, h2, obind]
        exact ⟨_, by rw [keptL_length]; omega, rfl, rfl⟩
      · simp only [if_neg hw]
        exact ⟨[], by simp, rfl, rfl⟩
    · simp only [if_neg hv]
      exact ⟨[], by simp, rfl, rfl⟩
  obtain ⟨l, hl, h1, h2⟩ := key
  unfold laws_FnExactKeptBy.f laws_toCut.f
  have hneg : ¬ (1 + (l.length : Int) < 0) := by omega
  simp only [obind, h1, h2, eqBoolS_refl l (by omega) 2000 (by omega), markBoolS_f l (by omega) 2000 (by omega), heldBoolS_f l.length (by omega) 2000 (by omega), if_true, if_neg hneg]

end Go.Proofs.Ytpachmimhampfaa.Pure
