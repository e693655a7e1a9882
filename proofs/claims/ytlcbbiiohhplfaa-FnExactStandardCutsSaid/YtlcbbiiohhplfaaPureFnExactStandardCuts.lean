/- StandardCuts of the program answers as the reference's, for all arguments. -/
import Derived.Test.YtlcbbiiohhplfaaKit
import Derived.Test.YtlcbbiiohhplfaaMFnExactStandardCutsx2
namespace Go.Proofs.Ytlcbbiiohhplfaa.Pure
open Go.RowKit Go.Proofs.Ytlcbbiiohhplfaa.PFnExactStandardCuts Go.Proofs.YtlcbbiiohhplfaaW.PrintWords Go.Proofs.YtlcbbiiohhplfaaW.PrintLast Go.Proofs.Ytlcbbiiohhplfaa.Kit

/-! ### within -/
theorem within_eq (a b c : Int) : impl_within.f a b c = some (decide (b ≤ a ∧ a ≤ c)) := by
  unfold impl_within.f
  by_cases h : b ≤ a
  · rw [if_pos h]; simp [h]
  · rw [if_neg h]; simp [h]

/-! ### l00In -/
theorem l00In_eq (a b c : Int) : spec_l00In.f a b c = some (decide (b ≤ a ∧ a ≤ c)) := by
  unfold spec_l00In.f
  by_cases h : b ≤ a
  · rw [if_pos h]; simp [h]
  · rw [if_neg h]; simp [h]

/-! ### eqCut -/
theorem eqCutS_self (l : List S65) (hl : l.length ≤ 1099511627776) (d : Nat) : ∀ (k i : Nat), i + d = l.length → d < k → laws_eqCutS.l0 k l l i = some true := by
  induction d with
  | zero =>
    intro k i hi hk
    obtain ⟨k, rfl⟩ : ∃ m, k = m + 1 := ⟨k - 1, by omega⟩
    simp only [laws_eqCutS.l0]
    rw [if_neg (by omega)]
  | succ d ih =>
    intro k i hi hk
    obtain ⟨k, rfl⟩ : ∃ m, k = m + 1 := ⟨k - 1, by omega⟩
    simp only [laws_eqCutS.l0]
    rw [if_pos (by omega), if_pos (by omega), if_pos (by omega), w64 (x := (i : Int) + 1) (by omega) (by omega)]
    unfold laws_eqCut.f
    simp only [if_true, obind]
    exact ih k (i + 1) (by omega) (by omega)
theorem eqCutS_refl (l : List S65) (hl : l.length ≤ 1099511627776) (k : Nat) (hk : l.length < k) : laws_eqCutS.f k l l = some true := by
  unfold laws_eqCutS.f
  rw [if_pos rfl]
  exact eqCutS_self l hl l.length k 0 (by omega) hk

/-! ### markCut -/
def numCut (m : Int) (j : Nat) : S65 := ⟨m + 3 * j, m + 3 * j + 1, m + 3 * j + 2⟩
def cutsFrom (m : Int) (d : Nat) : List S65 := (List.range d).map (numCut m)
theorem markCutS_l0 (d : Nat) : ∀ (k : Nat) (a b : List S65) (m : Int), b.length = d → d < k → a.length + d ≤ 1099511627776 → 0 ≤ m → m + 3 * d ≤ 9223372036854775000 →
    laws_markCutS.l0 k (a ++ b) m a.length = some (m + 3 * d, a ++ cutsFrom m d) := by
  induction d with
  | zero =>
    intro k a b m hb hk hl h0 h1
    obtain ⟨k, rfl⟩ : ∃ m, k = m + 1 := ⟨k - 1, by omega⟩
    obtain rfl : b = [] := List.eq_nil_of_length_eq_zero hb
    simp only [laws_markCutS.l0]
    rw [if_neg (by simp)]
    simp [cutsFrom]
  | succ d ih =>
    intro k a b m hb hk hl h0 h1
    obtain ⟨k, rfl⟩ : ∃ m, k = m + 1 := ⟨k - 1, by omega⟩
    match b, hb with
    | x :: b, hb =>
    simp only [laws_markCutS.l0, obind]
    have hset : ∀ (y z : S65), (a ++ y :: b).set (a.length : Int).toNat z = a ++ z :: b := fun y z => by simp
    have hrd : ∀ (y : S65), rd_T65 (a ++ y :: b) a.length = y := fun y => by simp [rd_T65]
    rw [if_pos (by simp; omega), if_pos (by omega)]
    simp only [hset, hrd]
    rw [w64 (x := m + 1) (by omega) (by omega), w64 (x := m + 1 + 1) (by omega) (by omega), w64 (x := m + 1 + 1 + 1) (by omega) (by omega), w64 (x := (a.length : Int) + 1) (by omega) (by omega)]
    have := ih k (a ++ [(⟨m, m + 1, m + 1 + 1⟩ : S65)]) b (m + 1 + 1 + 1) (by simpa using hb) (by omega) (by simp; omega) (by omega) (by omega)
    simp only [List.append_assoc, List.singleton_append, List.length_append, List.length_singleton, Int.natCast_add, Int.cast_ofNat_Int] at this
    rw [this]
    have e : cutsFrom m (d + 1) = (⟨m, m + 1, m + 1 + 1⟩ : S65) :: cutsFrom (m + 1 + 1 + 1) d := by
      unfold cutsFrom
      rw [List.range_succ_eq_map, List.map_cons, List.map_map]
      congr 1
      · unfold numCut; congr 1 <;> omega
      · apply List.map_congr_left
        intro j _
        show numCut m (j + 1) = numCut (m + 1 + 1 + 1) j
        unfold numCut; congr 1 <;> omega
    rw [e]
    congr 2
    omega
theorem heldCutS_l0 (d : Nat) : ∀ (k : Nat) (a : List S65) (m : Int), d < k → a.length + d ≤ 1099511627776 → 0 ≤ m → m + 3 * d ≤ 9223372036854775000 →
    laws_heldCutS.l0 k (a ++ cutsFrom m d) m a.length = some (m + 3 * d) := by
  induction d with
  | zero =>
    intro k a m hk hl h0 h1
    obtain ⟨k, rfl⟩ : ∃ m, k = m + 1 := ⟨k - 1, by omega⟩
    simp only [laws_heldCutS.l0]
    rw [if_neg (by simp [cutsFrom])]
    simp
  | succ d ih =>
    intro k a m hk hl h0 h1
    obtain ⟨k, rfl⟩ : ∃ m, k = m + 1 := ⟨k - 1, by omega⟩
    have e : cutsFrom m (d + 1) = (⟨m, m + 1, m + 1 + 1⟩ : S65) :: cutsFrom (m + 1 + 1 + 1) d := by
      unfold cutsFrom
      rw [List.range_succ_eq_map, List.map_cons, List.map_map]
      congr 1
      · unfold numCut; congr 1 <;> omega
      · apply List.map_congr_left
        intro j _
        show numCut m (j + 1) = numCut (m + 1 + 1 + 1) j
        unfold numCut; congr 1 <;> omega
    rw [e]
    simp only [laws_heldCutS.l0]
    have hrd : rd_T65 (a ++ (⟨m, m + 1, m + 1 + 1⟩ : S65) :: cutsFrom (m + 1 + 1 + 1) d) a.length = ⟨m, m + 1, m + 1 + 1⟩ := by simp [rd_T65]
    rw [if_pos (by simp; omega), if_pos (by omega)]
    simp only [hrd]
    rw [w64 (x := m + 1) (by omega) (by omega), w64 (x := m + 1 + 1) (by omega) (by omega), w64 (x := m + 1 + 1 + 1) (by omega) (by omega), w64 (x := (a.length : Int) + 1) (by omega) (by omega)]
    simp only [if_true]
    have := ih k (a ++ [(⟨m, m + 1, m + 1 + 1⟩ : S65)]) (m + 1 + 1 + 1) (by omega) (by simp; omega) (by omega) (by omega)
    simp only [List.append_assoc, List.singleton_append, List.length_append, List.length_singleton, Int.natCast_add, Int.cast_ofNat_Int] at this
    rw [this]
    congr 1
    omega
theorem markCutS_f (l : List S65) (hl : l.length ≤ 1099511627776) (k : Nat) (hk : l.length < k) : laws_markCutS.f k l 1 = some (1 + 3 * (l.length : Int), cutsFrom 1 l.length) := by
  unfold laws_markCutS.f
  exact markCutS_l0 l.length k [] l 1 rfl hk (by simpa using hl) (by omega) (by omega)
theorem heldCutS_f (n : Nat) (hl : n ≤ 1099511627776) (k : Nat) (hk : n < k) : laws_heldCutS.f k (cutsFrom 1 n) 1 = some (1 + 3 * (n : Int)) := by
  unfold laws_heldCutS.f
  exact heldCutS_l0 n k [] 1 hk (by simpa using hl) (by omega) (by omega)

def pairOf (j : Int) : List S65 := [⟨shl .i64 1 j, -1, 0⟩, ⟨wrap64 (1073741823 - shl .i64 1 j), -1, 0⟩]
def tailOf (n : Int) : List S65 := if n ≥ 1 then [⟨0, wrap64 (n - 1), 1⟩, ⟨1073741823, wrap64 (n - 1), 33⟩, ⟨1073741823, wrap64 (n - 1), 63⟩] else []
def restOf (n : Int) (i : Nat) : Nat → List S65
  | 0 => tailOf n
  | d + 1 => pairOf i ++ restOf n (i + 1) d
theorem restOf_length (n : Int) : ∀ (d i : Nat), (restOf n i d).length ≤ 3 + 2 * d
  | 0, i => by unfold restOf tailOf; split <;> simp
  | d + 1, i => by
    have := restOf_length n d (i + 1)
    simp only [restOf, pairOf, List.length_append, List.length_cons, List.length_nil]
    omega
theorem spec_std (n : Int) (m : Nat) (hm : (m : Int) = mn n 4) (hm4 : m ≤ 4) (d : Nat) : ∀ (k i : Nat) (acc : List S65), i + d = m → d < k → acc.length ≤ 2 + 2 * i →
    spec_l30Standard.l0 k n acc i = some (acc ++ restOf n i d) := by
  have hmn : (m : Int) = if 4 < n then 4 else n := hm
  induction d with
  | zero =>
    intro k i acc hi hk ha
    obtain ⟨k, rfl⟩ : ∃ m, k = m + 1 := ⟨k - 1, by omega⟩
    have ht : (if n ≥ 1 then ((some (([(⟨0, wrap64 (n - 1), 1⟩ : S65), (⟨1073741823, wrap64 (n - 1), 33⟩ : S65), (⟨1073741823, wrap64 (n - 1), 63⟩ : S65)] : List (S65)) : List (S65))).bind fun y110 => (if acc.length + y110.length < 5864062014805 then (some (acc ++ y110)) else (none))) else (some acc)) = some (acc ++ restOf n i 0) := by
      simp only [restOf, tailOf, obind]
      by_cases h1 : n ≥ 1
      · rw [if_pos h1, if_pos (by simp; omega), if_pos h1]
      · rw [if_neg h1, if_neg h1]; simp
    simp only [spec_l30Standard.l0]
    by_cases hc : (i : Int) < n
    · rw [if_pos hc, if_neg (by split at hmn <;> omega)]
      exact ht
    · rw [if_neg hc]
      exact ht
  | succ d ih =>
    intro k i acc hi hk ha
    obtain ⟨k, rfl⟩ : ∃ m, k = m + 1 := ⟨k - 1, by omega⟩
    simp only [spec_l30Standard.l0, obind]
    have hu : IntKind.u64.wrap (i : Int) = i := by rw [wrap_u64]; omega
    rw [if_pos (by split at hmn <;> omega), if_pos (by omega), hu, if_pos (by omega), if_pos (by simp; omega), w64 (x := (i : Int) + 1) (by omega) (by omega)]
    have := ih k (i + 1) (acc ++ pairOf i) (by omega) (by omega) (by simp [pairOf]; omega)
    simp only [restOf]
    rw [← List.append_assoc]
    exact this
theorem impl_std (n : Int) (m : Nat) (hm : (m : Int) = mn n 4) (hm4 : m ≤ 4) (d : Nat) : ∀ (k i : Nat) (acc : List S65), i + d = m → d < k → acc.length ≤ 2 + 2 * i →
    impl_standardCuts.l0 k n acc (mn n 4) i = some (acc ++ restOf n i d) := by
  rw [← hm]
  induction d with
  | zero =>
    intro k i acc hi hk ha
    obtain ⟨k, rfl⟩ : ∃ m, k = m + 1 := ⟨k - 1, by omega⟩
    simp only [impl_standardCuts.l0, restOf, tailOf, obind]
    rw [if_neg (by omega)]
    by_cases h1 : n ≥ 1
    · rw [if_pos (by omega), if_pos (by simp; omega), if_pos h1]
    · rw [if_neg (by omega), if_neg h1]; simp
  | succ d ih =>
    intro k i acc hi hk ha
    obtain ⟨k, rfl⟩ : ∃ m, k = m + 1 := ⟨k - 1, by omega⟩
    simp only [impl_standardCuts.l0, obind]
    rw [if_pos (by omega), if_pos (by omega), if_pos (by simp; omega), w64 (x := (i : Int) + 1) (by omega) (by omega)]
    have := ih k (i + 1) (acc ++ pairOf i) (by omega) (by omega) (by simp [pairOf]; omega)
    simp only [restOf]
    rw [← List.append_assoc]
    exact this
theorem FnExactStandardCuts : laws_FnExactStandardCuts.Pure := by
  intro n hn
  refine ⟨40, ?_⟩
  have key : ∃ l : List S65, l.length ≤ 20 ∧ spec_StandardCuts.f 40 n = some l ∧ impl_StandardCuts.f 40 n = some l := by
    unfold spec_StandardCuts.f impl_StandardCuts.f
    simp only [l00In_eq, within_eq, obind, decide_eq_true_eq]
    by_cases h : 0 ≤ n ∧ n ≤ 600
    · simp only [if_pos h]
      have hmn : mn n 4 = if 4 < n then 4 else n := rfl
      obtain ⟨m, hm⟩ : ∃ m : Nat, (m : Int) = mn n 4 := ⟨(mn n 4).toNat, by split at hmn <;> omega⟩
      have hm4 : m ≤ 4 := by split at hmn <;> omega
      have h1 := spec_std n m hm hm4 m 40 0 [⟨0, -1, 0⟩, ⟨1073741823, -1, 0⟩] (by omega) (by omega) (by simp)
      have h2 := impl_std n m hm hm4 m 40 0 [⟨0, -1, 0⟩, ⟨1073741823, -1, 0⟩] (by omega) (by omega) (by simp)
      have hl := restOf_length n m 0
      refine ⟨[⟨0, -1, 0⟩, ⟨1073741823, -1, 0⟩] ++ restOf n 0 m, by simp; omega, ?_, ?_⟩
      · unfold spec_l30Standard.f; rw [show (0 : Int) = ((0 : Nat) : Int) from rfl] at *; rw [h1]; rfl
      · unfold impl_standardCuts.f; rw [show (0 : Int) = ((0 : Nat) : Int) from rfl] at *; rw [h2]; rfl
    · simp only [if_neg h]
      exact ⟨[], by simp, rfl, rfl⟩
  obtain ⟨l, hl, h1, h2⟩ := key
  unfold laws_FnExactStandardCuts.f
  simp only [h1, h2, obind, eqCutS_refl l (by omega) 40 (by omega), markCutS_f l (by omega) 40 (by omega), heldCutS_f l.length (by omega) 40 (by omega), if_true]
  have hneg : ¬ (1 + 3 * (l.length : Int) < 0) := by omega
  simp only [if_neg hneg]

end Go.Proofs.Ytlcbbiiohhplfaa.Pure
