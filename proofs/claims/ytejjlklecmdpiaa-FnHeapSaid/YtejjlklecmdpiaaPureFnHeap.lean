/- A name that is stored is found in its slot, all other slots are unchanged, and a heap is recovered from its binary form. -/
import Derived.Test.YtejjlklecmdpiaaKit
import Derived.Test.YtejjlklecmdpiaaMFnHeapx9
namespace Go.Proofs.Ytejjlklecmdpiaa.Pure
open Go.RowKit Go.Proofs.Ytejjlklecmdpiaa.PFnHeap Go.Proofs.YtejjlklecmdpiaaW.PrintWords Go.Proofs.YtejjlklecmdpiaaW.PrintLast Go.Proofs.Ytejjlklecmdpiaa.Kit

/-! ### pick -/
/-- A reader of draws: a list of bytes, a place that is not behind 2^40, a seed. -/
theorem next_some (l : List Int) (hl : ∀ x ∈ l, 0 ≤ x ∧ x ≤ 255) (p q : Int) (h0 : 0 ≤ p) (h1 : p ≤ 4611686018427387904) :
    ∃ r q', spec_l00Src_next.f l p q = some (r, p + 1, q') ∧ 0 ≤ r ∧ r ≤ 255 := by
  unfold spec_l00Src_next.f
  rw [w64 (x := p + 1) (by omega) (by omega)]
  have hand : ∀ x : Int, 0 ≤ wrap64 (Go.bits .and .u64 (IntKind.u64.wrap x / 1099511627776) 255) ∧ wrap64 (Go.bits .and .u64 (IntKind.u64.wrap x / 1099511627776) 255) ≤ 255 := fun x => by
    have := and255 (IntKind.u64.wrap x / 1099511627776)
    rw [w64] <;> omega
  have hrd : 0 ≤ rd l p ∧ rd l p ≤ 255 := rd_all (P := fun x => 0 ≤ x ∧ x ≤ 255) hl (by omega) p
  by_cases h2 : p < l.length
  · rw [if_pos h2, if_pos h0]
    by_cases h3 : p + 1 ≤ l.length
    · rw [if_pos h3]
      exact ⟨_, _, rfl, by rw [w64] <;> omega, by rw [w64] <;> omega⟩
    · omega
  · rw [if_neg h2]
    by_cases h3 : p + 1 ≤ l.length
    · rw [if_pos h3]
      exact ⟨_, _, rfl, by omega, by omega⟩
    · rw [if_neg h3]
      exact ⟨_, _, rfl, (hand _).1, (hand _).2⟩
theorem tmod_bd {x n : Int} (hx : 0 ≤ x) (hn : 0 < n) : 0 ≤ Int.tmod x n ∧ Int.tmod x n < n :=
  ⟨Int.tmod_nonneg _ hx, Int.tmod_lt_of_pos _ hn⟩
theorem pick_some (l : List Int) (hl : ∀ x ∈ l, 0 ≤ x ∧ x ≤ 255) (p q n : Int) (h0 : 0 ≤ p) (h1 : p ≤ 4611686018427387903) :
    ∃ r p' q', spec_l00Src_pick.f l p q n = some (r, p', q') ∧ 0 ≤ r ∧ (r = 0 ∨ r < n) ∧ p ≤ p' ∧ p' ≤ p + 2 := by
  unfold spec_l00Src_pick.f
  by_cases hn : n ≤ 1
  · rw [if_pos hn]
    exact ⟨_, _, _, rfl, by omega, by omega, by omega, by omega⟩
  · rw [if_neg hn]
    obtain ⟨a, q1, ha, a0, a1⟩ := next_some l hl p q h0 (by omega)
    rw [ha]
    simp only [obind]
    by_cases h2 : n > 200
    · rw [if_pos h2]
      obtain ⟨b, q2, hb, b0, b1⟩ := next_some l hl (p + 1) q1 (by omega) (by omega)
      rw [hb]
      simp only [obind]
      rw [if_neg (by omega), w64 (x := a * 256) (by omega) (by omega), w64 (x := a * 256 + b) (by omega) (by omega)]
      have := tmod_bd (x := a * 256 + b) (n := n) (by omega) (by omega)
      exact ⟨_, _, _, rfl, by omega, by omega, by omega, by omega⟩
    · rw [if_neg h2, if_neg (by omega)]
      have := tmod_bd (x := a) (n := n) (by omega) (by omega)
      exact ⟨_, _, _, rfl, by omega, by omega, by omega, by omega⟩

/-! ### one -/
theorem one_some (l : List Int) (hl : ∀ x ∈ l, 0 ≤ x ∧ x ≤ 255) (p q n : Int) (h0 : 0 ≤ p) (h1 : p ≤ 4611686018427387903) :
    ∃ r p' q', spec_l00Src_one.f l p q n = some (r, p', q') ∧ p ≤ p' ∧ p' ≤ p + 2 := by
  unfold spec_l00Src_one.f
  obtain ⟨a, p1, q1, ha, a0, a1, a2, a3⟩ := pick_some l hl p q n h0 h1
  rw [ha]
  simp only [obind]
  exact ⟨_, _, _, rfl, by omega, by omega⟩

/-! ### drawName -/
def small (l : List ByteArray) : Prop := ∀ s ∈ l, s.size ≤ 20
theorem small_app {a b : List ByteArray} (h : small a) (h2 : small b) : small (a ++ b) := fun s hs => by
  rcases List.mem_append.1 hs with h3 | h3
  · exact h s h3
  · exact h2 s h3
theorem small_one {s : ByteArray} (h : s.size ≤ 20) : small [s] := fun x hx => by
  rw [List.mem_singleton] at hx
  rw [hx]; exact h
theorem text_some (l : List Int) (hl : ∀ x ∈ l, 0 ≤ x ∧ x ≤ 255) (p q : Int) (xs : List ByteArray) (hx : 0 < xs.length) (hs : small xs) (h0 : 0 ≤ p) (h1 : p ≤ 4611686018427387903) :
    ∃ r p' q', spec_l00Src_text.f l p q xs = some (r, p', q') ∧ r.size ≤ 20 ∧ p ≤ p' ∧ p' ≤ p + 2 := by
  unfold spec_l00Src_text.f
  obtain ⟨a, p1, q1, ha, a0, a1, a2, a3⟩ := pick_some l hl p q xs.length h0 h1
  rw [ha]
  simp only [obind]
  rw [if_pos a0, if_pos (by omega)]
  refine ⟨_, _, _, rfl, ?_, by omega, by omega⟩
  have hi : a.toNat < xs.length := by omega
  have : rdOf ByteArray.empty xs a = xs[a.toNat] := by simp [rdOf, hi]
  rw [this]
  exact hs _ (List.getElem_mem hi)
theorem drawName_some (l : List Int) (hl : ∀ x ∈ l, 0 ≤ x ∧ x ≤ 255) (p q : Int) (h0 : 0 ≤ p) (h1 : p ≤ 4611686018427387903) :
    ∃ r p' q', spec_l02DrawName.f l p q = some (r, p', q') ∧ r.size ≤ 20 ∧ p ≤ p' ∧ p' ≤ p + 2 := by
  unfold spec_l02DrawName.f
  obtain ⟨r, p', q', h, h2, h3, h4⟩ := text_some l hl p q [(⟨#[88]⟩ : ByteArray), (⟨#[89]⟩ : ByteArray), (⟨#[90]⟩ : ByteArray), (⟨#[97]⟩ : ByteArray), (⟨#[98, 49]⟩ : ByteArray), (⟨#[82, 69, 68]⟩ : ByteArray), (⟨#[66, 76, 85, 69]⟩ : ByteArray), (⟨#[71, 82, 69, 69, 78]⟩ : ByteArray), (⟨#[116, 105, 109, 101]⟩ : ByteArray), (⟨#[118, 97, 108, 95, 50]⟩ : ByteArray)] (by simp) (by unfold small; decide) h0 h1
  rw [h]
  simp only [obind]
  exact ⟨_, _, _, rfl, h2, h3, h4⟩

/-! ### drawHeap -/
theorem dh_l2 (l : List Int) (p q : Int) (d : Nat) : ∀ (k : Nat) (acc : List ByteArray), acc.length + d = 60 → d < k → small acc → ∃ h, spec_l16Draw.l2 k l p q acc = some (h, p, q) ∧ h.length ≤ 60 ∧ small h := by
  induction d with
  | zero =>
    intro k acc ha hk hs
    obtain ⟨k, rfl⟩ : ∃ m, k = m + 1 := ⟨k - 1, by omega⟩
    simp only [spec_l16Draw.l2]
    rw [if_neg (by omega)]
    exact ⟨_, rfl, by omega, hs⟩
  | succ d ih =>
    intro k acc ha hk hs
    obtain ⟨k, rfl⟩ : ∃ m, k = m + 1 := ⟨k - 1, by omega⟩
    simp only [spec_l16Draw.l2]
    by_cases h : (acc.length : Int) < 31
    · rw [if_pos h, if_pos (by omega)]
      exact ih k _ (by simp; omega) (by omega) (small_app hs (small_one (by decide)))
    · rw [if_neg h]
      exact ⟨_, rfl, by omega, hs⟩
theorem dh_j4 (l : List Int) (hl : ∀ x ∈ l, 0 ≤ x ∧ x ≤ 255) (n p q : Int) (acc : List ByteArray) (ha : acc.length ≤ 50) (hs : small acc) (h0 : 0 ≤ p) (h1 : p ≤ 1000000) (k : Nat) (hk : 100 < k) :
    ∃ h p' q', spec_l16Draw.j4 k n l p q acc = some (h, p', q') ∧ h.length ≤ 60 ∧ small h ∧ 0 ≤ p' ∧ p' ≤ 2000000 := by
  obtain ⟨k, rfl⟩ : ∃ m, k = m + 1 := ⟨k - 1, by omega⟩
  simp only [spec_l16Draw.j4]
  obtain ⟨b, p1, q1, e1, a1, a2⟩ := one_some l hl p q n h0 (by omega)
  rw [e1]
  simp only [obind]
  by_cases hb : b = true
  · rw [if_pos hb]
    obtain ⟨r, p2, q2, e2, _, _, a3, a4⟩ := pick_some l hl p1 q1 3 (by omega) (by omega)
    rw [e2]
    simp only [obind]
    by_cases c0 : r = 0
    · rw [if_pos c0, if_pos (by omega)]
      exact ⟨_, _, _, rfl, by simp; omega, small_app hs (small_one (by decide)), by omega, by omega⟩
    · rw [if_neg c0]
      by_cases c1 : r = 1
      · rw [if_pos c1]
        obtain ⟨t, p3, q3, e3, ht, a5, a6⟩ := text_some l hl p2 q2 [(⟨#[49]⟩ : ByteArray), (⟨#[97, 32, 98]⟩ : ByteArray), (⟨#[65, 66, 67, 68, 69, 70, 71, 72, 73, 74, 75, 76, 77]⟩ : ByteArray)] (by simp) (by unfold small; decide) (by omega) (by omega)
        rw [e3]
        simp only [obind]
        rw [if_pos (by omega)]
        exact ⟨_, _, _, rfl, by simp; omega, small_app hs (small_one ht), by omega, by omega⟩
      · rw [if_neg c1]
        obtain ⟨h, e3, hh, hsm⟩ := dh_l2 l p2 q2 (60 - acc.length) k acc (by omega) (by omega) hs
        exact ⟨h, p2, q2, e3, hh, hsm, by omega, by omega⟩
  · rw [if_neg hb]
    exact ⟨_, _, _, rfl, by omega, hs, by omega, by omega⟩
theorem dh_j2 (l : List Int) (hl : ∀ x ∈ l, 0 ≤ x ∧ x ≤ 255) (n p q : Int) (acc : List ByteArray) (ha : acc.length ≤ 49) (hs : small acc) (h0 : 0 ≤ p) (h1 : p ≤ 999990) (k : Nat) (hk : 110 < k) :
    ∃ h p' q', spec_l16Draw.j2 k n l p q acc = some (h, p', q') ∧ h.length ≤ 60 ∧ small h ∧ 0 ≤ p' ∧ p' ≤ 2000000 := by
  obtain ⟨k, rfl⟩ : ∃ m, k = m + 2 := ⟨k - 2, by omega⟩
  have j3 : ∀ b : Bool, ∃ h p' q', spec_l16Draw.j3 (k + 1) n b l p q acc = some (h, p', q') ∧ h.length ≤ 60 ∧ small h ∧ 0 ≤ p' ∧ p' ≤ 2000000 := fun b => by
    simp only [spec_l16Draw.j3]
    by_cases hb : b = true
    · rw [if_pos hb]
      obtain ⟨t, p1, q1, e1, ht, a1, a2⟩ := drawName_some l hl p q h0 (by omega)
      rw [e1]
      simp only [obind]
      rw [if_pos (by omega)]
      exact dh_j4 l hl n p1 q1 _ (by simp; omega) (small_app hs (small_one ht)) (by omega) (by omega) k (by omega)
    · rw [if_neg hb]
      exact dh_j4 l hl n p q acc (by omega) hs h0 (by omega) k (by omega)
  simp only [spec_l16Draw.j2]
  by_cases h : (acc.length : Int) > 0
  · rw [if_pos h, w64 (x := (acc.length : Int) - 1) (by omega) (by omega), if_pos (by omega), if_pos (by omega)]
    exact j3 _
  · rw [if_neg h]
    exact j3 _
theorem dh_l1 (l : List Int) (hl : ∀ x ∈ l, 0 ≤ x ∧ x ≤ 255) (n : Int) (d : Nat) : ∀ (k : Nat) (acc : List ByteArray) (p q : Int), acc.length + d = 45 → d + 120 < k → small acc → 0 ≤ p → p + 2 * d ≤ 900000 →
    ∃ h p' q', spec_l16Draw.l1 k n l p q acc = some (h, p', q') ∧ h.length ≤ 60 ∧ small h ∧ 0 ≤ p' ∧ p' ≤ 2000000 := by
  induction d with
  | zero =>
    intro k acc p q ha hk hs h0 h1
    obtain ⟨k, rfl⟩ : ∃ m, k = m + 1 := ⟨k - 1, by omega⟩
    simp only [spec_l16Draw.l1]
    obtain ⟨r, p1, q1, e1, r0, r1, a1, a2⟩ := pick_some l hl p q 2 h0 (by omega)
    rw [e1]
    simp only [obind]
    rw [w64 (x := 29 + r) (by omega) (by omega), if_neg (by omega)]
    exact dh_j2 l hl n p1 q1 acc (by omega) hs (by omega) (by omega) k (by omega)
  | succ d ih =>
    intro k acc p q ha hk hs h0 h1
    obtain ⟨k, rfl⟩ : ∃ m, k = m + 1 := ⟨k - 1, by omega⟩
    simp only [spec_l16Draw.l1]
    obtain ⟨r, p1, q1, e1, r0, r1, a1, a2⟩ := pick_some l hl p q 2 h0 (by omega)
    rw [e1]
    simp only [obind]
    rw [w64 (x := 29 + r) (by omega) (by omega)]
    by_cases h : (acc.length : Int) < 29 + r
    · rw [if_pos h, if_pos (by omega)]
      exact ih k _ p1 q1 (by simp; omega) (by omega) (small_app hs (small_one (by decide))) (by omega) (by omega)
    · rw [if_neg h]
      exact dh_j2 l hl n p1 q1 acc (by omega) hs (by omega) (by omega) k (by omega)
theorem dh_l0 (l : List Int) (hl : ∀ x ∈ l, 0 ≤ x ∧ x ≤ 255) (n : Int) (d : Nat) : ∀ (k : Nat) (acc : List ByteArray) (p q : Int), acc.length + d ≤ 10 → d + 300 < k → small acc → 0 ≤ p → p + 4 * d ≤ 1000 →
    ∃ h p' q', spec_l16Draw.l0 k n d l p q acc = some (h, p', q') ∧ h.length ≤ 60 ∧ small h ∧ 0 ≤ p' ∧ p' ≤ 2000000 := by
  induction d with
  | zero =>
    intro k acc p q ha hk hs h0 h1
    obtain ⟨k, rfl⟩ : ∃ m, k = m + 1 := ⟨k - 1, by omega⟩
    simp only [spec_l16Draw.l0]
    rw [if_neg (by omega)]
    obtain ⟨b, p1, q1, e1, a1, a2⟩ := one_some l hl p q 16 h0 (by omega)
    rw [e1]
    simp only [obind]
    by_cases hb : b = true
    · rw [if_pos hb]
      exact dh_l1 l hl n (45 - acc.length) k acc p1 q1 (by omega) (by omega) hs (by omega) (by omega)
    · rw [if_neg hb]
      exact dh_j2 l hl n p1 q1 acc (by omega) hs (by omega) (by omega) k (by omega)
  | succ d ih =>
    intro k acc p q ha hk hs h0 h1
    obtain ⟨k, rfl⟩ : ∃ m, k = m + 1 := ⟨k - 1, by omega⟩
    simp only [spec_l16Draw.l0]
    rw [if_pos (by omega), w64 (x := ((d + 1 : Nat) : Int) - 1) (by omega) (by omega), show ((d + 1 : Nat) : Int) - 1 = d by omega]
    obtain ⟨t, p1, q1, e1, ht, a1, a2⟩ := drawName_some l hl p q h0 (by omega)
    rw [e1]
    simp only [obind]
    obtain ⟨b, p2, q2, e2, a3, a4⟩ := one_some l hl p1 q1 4 (by omega) (by omega)
    rw [e2]
    simp only [obind]
    by_cases hb : b = true
    · rw [if_pos hb, if_pos (by omega)]
      exact ih k _ p2 q2 (by simp; omega) (by omega) (small_app hs (small_one (by decide))) (by omega) (by omega)
    · rw [if_neg hb, if_pos (by omega)]
      exact ih k _ p2 q2 (by simp; omega) (by omega) (small_app hs (small_one ht)) (by omega) (by omega)
theorem drawHeap_some (l : List Int) (hl : ∀ x ∈ l, 0 ≤ x ∧ x ≤ 255) (n q : Int) (k : Nat) (hk : 400 < k) :
    ∃ h p' q', spec_l16Draw.f k l 0 q n = some (h, p', q') ∧ h.length ≤ 60 ∧ small h ∧ 0 ≤ p' ∧ p' ≤ 2000000 := by
  unfold spec_l16Draw.f
  obtain ⟨r, p1, q1, e1, r0, r1, a1, a2⟩ := pick_some l hl 0 q 7 (by omega) (by omega)
  obtain ⟨m, rfl⟩ := Int.eq_ofNat_of_zero_le r0
  rw [e1]
  simp only [obind]
  exact dh_l0 l hl n m k [] p1 q1 (by simp; omega) (by omega) (fun s h => by cases h) (by omega) (by omega)

/-! ### within -/
theorem within_eq (a b c : Int) : impl_within.f a b c = some (decide (b ≤ a ∧ a ≤ c)) := by
  unfold impl_within.f
  by_cases h : b ≤ a
  · rw [if_pos h]; simp [h]
  · rw [if_neg h]; simp [h]

/-! ### nameModel -/
def isLetter (c : Int) : Bool := (decide (65 ≤ c) && decide (c ≤ 90)) || (decide (97 ≤ c) && decide (c ≤ 122))
def isNameCh (c : Int) : Bool := isLetter c || (decide (48 ≤ c) && decide (c ≤ 57)) || decide (c = 95)
def allFrom (s : ByteArray) (i : Nat) : Nat → Bool
  | 0 => true
  | d + 1 => isNameCh (bt s i) && allFrom s (i + 1) d
/-- A name: one to twelve letters, digits and underscores, a letter first. -/
def isNm (s : ByteArray) : Bool := decide (1 ≤ s.size) && decide (s.size ≤ 12) && isLetter (bt s 0) && allFrom s 1 (s.size - 1)

/-! ### heapModel -/
def okNames : List ByteArray → Bool
  | [] => true
  | s :: l => (decide (s.size = 0) || isNm s) && okNames l
/-- A valid heap's names. -/
def okHeap (l : List ByteArray) : Bool := decide (l.length ≤ 30) && (decide (l.length = 0) || decide ((rdOf ByteArray.empty l (l.length - 1)).size ≠ 0)) && okNames l
theorem okNames_app (a b : List ByteArray) : okNames (a ++ b) = (okNames a && okNames b) := by
  induction a with
  | nil => simp [okNames]
  | cons x a ih => simp [okNames, ih, Bool.and_assoc]
theorem rdOf_at {α : Type} (z : α) (a : List α) (x : α) (b : List α) : rdOf z (a ++ x :: b) a.length = x := by simp [rdOf]

/-! ### implIsName -/
/-- What a round of IsName's loop comes to. -/
theorem implIsName_round (k : Nat) (s : ByteArray) (i : Nat) (hi : i < s.size) (hs : s.size ≤ 140737488351232) :
    impl_IsName.l0 (k + 1) s s.size i = if isLetter (bt s i) || (decide (i ≠ 0) && isNameCh (bt s i)) then impl_IsName.l0 k s s.size ((i : Int) + 1) else some false := by
  obtain ⟨b0, b1⟩ := bt_range s i
  simp only [impl_IsName.l0]
  rw [if_pos (by omega), if_pos (by omega), if_pos (by omega), w64 (x := (i : Int) + 1) (by omega) (by omega)]
  generalize bt s i = c at *
  generalize impl_IsName.l0 k s s.size ((i : Int) + 1) = R
  have hz : ((i : Int) = 0) ↔ (i = 0) := by omega
  unfold isNameCh isLetter
  by_cases z : i = 0
  · simp only [z, Int.natCast_zero, if_true]
    by_cases h1 : c ≥ 65 <;> by_cases h2 : c ≤ 90 <;> by_cases h3 : c ≥ 97 <;> by_cases h4 : c ≤ 122 <;> simp [h1, h2, h3, h4] <;> omega
  · have z' : ¬ ((i : Int) = 0) := by omega
    simp only [if_neg z']
    by_cases h1 : c ≥ 65 <;> by_cases h2 : c ≤ 90 <;> by_cases h3 : c ≥ 97 <;> by_cases h4 : c ≤ 122 <;> by_cases h5 : c < 48 <;> by_cases h6 : c > 57 <;> by_cases h7 : c = 95 <;> simp [h1, h2, h3, h4, h5, h6, h7, z] <;> omega
theorem implIsName_l0 (s : ByteArray) (hs : s.size ≤ 140737488351232) (R : Bool) (d : Nat) : ∀ (k i : Nat), 1 ≤ i → i + d = s.size → d < k →
    (∀ j : Nat, 0 < j → impl_IsName.l0 j s s.size s.size = some R) → impl_IsName.l0 k s s.size i = some (allFrom s i d && R) := by
  induction d with
  | zero =>
    intro k i h1 hi hk hR
    rw [show i = s.size by omega, hR k (by omega)]
    simp [allFrom]
  | succ d ih =>
    intro k i h1 hi hk hR
    obtain ⟨k, rfl⟩ : ∃ m, k = m + 1 := ⟨k - 1, by omega⟩
    have hn := ih k (i + 1) (by omega) (by omega) (by omega) hR
    rw [show ((i + 1 : Nat) : Int) = (i : Int) + 1 by omega] at hn
    have hz : i ≠ 0 := by omega
    have hc : (isLetter (bt s i) || (decide (i ≠ 0) && isNameCh (bt s i))) = isNameCh (bt s i) := by
      unfold isNameCh
      cases isLetter (bt s i) <;> simp [hz]
    rw [implIsName_round k s i (by omega) hs, hn, hc]
    simp only [allFrom]
    cases isNameCh (bt s i) <;> simp
theorem implIsName_end (s : ByteArray) (j : Nat) (hj : 0 < j) : impl_IsName.l0 j s s.size s.size = some (decide (1 ≤ s.size) && decide (s.size ≤ 12)) := by
  obtain ⟨j, rfl⟩ : ∃ m, j = m + 1 := ⟨j - 1, by omega⟩
  simp only [impl_IsName.l0]
  rw [if_neg (by omega)]
  by_cases h1 : 1 ≤ s.size
  · rw [if_pos (by omega)]
    congr 1
    by_cases h2 : s.size ≤ 12
    · rw [decide_eq_true (show (s.size : Int) ≤ 12 by omega)]; simp [h1, h2]
    · rw [decide_eq_false (show ¬ (s.size : Int) ≤ 12 by omega)]; simp [h1, h2]
  · rw [if_neg (by omega)]; simp [h1]
theorem implIsName_eq (s : ByteArray) (hs : s.size ≤ 140737488351232) (k : Nat) (hk : s.size + 1 < k) : impl_IsName.f k s = some (isNm s) := by
  unfold impl_IsName.f isNm
  by_cases h0 : s.size = 0
  · have := implIsName_end s k (by omega)
    rw [h0] at this
    rw [h0]
    rw [show ((0 : Nat) : Int) = 0 from rfl] at *
    rw [this]
    simp
  · obtain ⟨k, rfl⟩ : ∃ m, k = m + 1 := ⟨k - 1, by omega⟩
    have hr := implIsName_round k s 0 (by omega) hs
    rw [show ((0 : Nat) : Int) = 0 from rfl] at hr
    rw [hr]
    have hn := implIsName_l0 s hs _ (s.size - 1) k 1 (by omega) (by omega) (by omega) (implIsName_end s)
    rw [show ((1 : Nat) : Int) = 0 + 1 by omega] at hn
    rw [hn]
    have h1 : 1 ≤ s.size := by omega
    cases isLetter (bt s 0) <;> cases allFrom s 1 (s.size - 1) <;> by_cases h2 : s.size ≤ 12 <;> simp [h1, h2]

/-! ### implValidHeap -/
theorem badName_eq (s : ByteArray) (hs : s.size ≤ 140737488351232) (k : Nat) (hk : s.size + 1 < k) : impl_ValidHeap_1.f k s = some (!(decide (s.size = 0) || isNm s)) := by
  unfold impl_ValidHeap_1.f
  by_cases hz : s.size = 0
  · rw [if_pos ((toList_nil s).2 hz)]; simp [hz]
  · rw [if_neg (fun h => hz ((toList_nil s).1 h)), implIsName_eq s hs k hk]
    simp [hz]
theorem badNames_l0 (B d : Nat) : ∀ (k : Nat) (a b : List ByteArray), b.length = d → d + B + 5 < k → a.length + d ≤ 1099511627776 → (∀ s ∈ b, s.size ≤ B) → B ≤ 140737488351232 →
    ∃ r, slices_IndexFunc_impl_ValidHeap_1.l0 k (a ++ b) ((a ++ b).length : Int) a.length = some r ∧ decide (r ≥ 0) = !okNames b := by
  induction d with
  | zero =>
    intro k a b hb hk hl hs hB
    obtain ⟨k, rfl⟩ : ∃ m, k = m + 1 := ⟨k - 1, by omega⟩
    obtain rfl : b = [] := List.eq_nil_of_length_eq_zero hb
    simp only [slices_IndexFunc_impl_ValidHeap_1.l0]
    rw [if_neg (by simp)]
    exact ⟨_, rfl, by simp [okNames]⟩
  | succ d ih =>
    intro k a b hb hk hl hs hB
    obtain ⟨k, rfl⟩ : ∃ m, k = m + 1 := ⟨k - 1, by omega⟩
    match b, hb with
    | x :: b, hb =>
    obtain ⟨r, hi, hr⟩ := ih k (a ++ [x]) b (by simpa using hb) (by omega) (by simp; omega) (fun s h => hs s (List.mem_cons_of_mem _ h)) hB
    rw [List.append_assoc, List.singleton_append, show ((a ++ [x]).length : Int) = (a.length : Int) + 1 by simp] at hi
    have hx := hs x (List.mem_cons_self ..)
    simp only [slices_IndexFunc_impl_ValidHeap_1.l0]
    rw [if_pos (by simp; omega), if_pos (by omega), if_pos (by simp; omega), rdOf_at, w64 (x := (a.length : Int) + 1) (by omega) (by omega), badName_eq x (by omega) k (by omega)]
    simp only [obind, okNames]
    cases hz : (decide (x.size = 0) || isNm x)
    · rw [if_pos (by rfl)]
      exact ⟨_, rfl, by simp⟩
    · rw [if_neg (by simp)]
      exact ⟨r, hi, by rw [hr]; simp⟩
theorem implValidHeap_eq (B : Nat) (l : List ByteArray) (hl : l.length ≤ 1099511627776) (hs : ∀ s ∈ l, s.size ≤ B) (hB : B ≤ 140737488351232) (k : Nat) (hk : l.length + B + 10 < k) : impl_ValidHeap.f k l = some (okHeap l) := by
  unfold impl_ValidHeap.f okHeap
  obtain ⟨r, h0, hr⟩ := badNames_l0 B l.length k [] l rfl (by omega) (by simpa using hl) hs hB
  rw [List.nil_append, show (([] : List ByteArray).length : Int) = 0 from rfl] at h0
  have hc : slices_ContainsFunc_impl_ValidHeap_1.f k l = some (!okNames l) := by
    unfold slices_ContainsFunc_impl_ValidHeap_1.f slices_IndexFunc_impl_ValidHeap_1.f
    rw [h0]
    simp only [obind]
    rw [hr]
  rw [hc]
  simp only [obind]
  by_cases h1 : (l.length : Int) ≤ 30
  · have h30 : l.length ≤ 30 := by omega
    rw [if_pos h1]
    by_cases h2 : (l.length : Int) = 0
    · rw [if_pos h2]
      have hn : l.length = 0 := by omega
      simp [hn]
    · have hne : ¬ l.length = 0 := by omega
      rw [if_neg h2, w64 (x := (l.length : Int) - 1) (by omega) (by omega), if_pos (by omega), if_pos (by omega)]
      generalize rdOf ByteArray.empty l ((l.length : Int) - 1) = x
      by_cases hz : x.size = 0
      · rw [if_pos ((toList_nil x).2 hz)]; simp [hz, hne]
      · rw [if_neg (fun h => hz ((toList_nil x).1 h))]; simp [hz, h30]
  · rw [if_neg h1]; simp; omega

/-! ### specIsName -/
theorem specLetter_eq (c : Int) : spec_l01Letter.f c = some (isLetter c) := by
  unfold spec_l01Letter.f isLetter
  by_cases h1 : c ≥ 65 <;> by_cases h2 : c ≤ 90 <;> by_cases h3 : c ≥ 97 <;> by_cases h4 : c ≤ 122 <;> simp [h1, h2, h3, h4] <;> omega
theorem specIsName_l0 (s : ByteArray) (hs : s.size ≤ 140737488351232) (d : Nat) : ∀ (k i : Nat), i + d = s.size → d < k → spec_IsName.l0 k s i = some (allFrom s i d) := by
  induction d with
  | zero =>
    intro k i hi hk
    obtain ⟨k, rfl⟩ : ∃ m, k = m + 1 := ⟨k - 1, by omega⟩
    simp only [spec_IsName.l0, allFrom]
    rw [if_neg (by omega)]
  | succ d ih =>
    intro k i hi hk
    obtain ⟨k, rfl⟩ : ∃ m, k = m + 1 := ⟨k - 1, by omega⟩
    have hn := ih k (i + 1) (by omega) (by omega)
    rw [show ((i + 1 : Nat) : Int) = (i : Int) + 1 by omega] at hn
    simp only [spec_IsName.l0, allFrom, specLetter_eq, obind]
    rw [if_pos (by omega), if_pos (by omega), w64 (x := (i : Int) + 1) (by omega) (by omega), hn]
    unfold isNameCh
    by_cases h1 : isLetter (bt s i) = true
    · rw [if_pos h1]; simp [h1]
    · rw [if_neg h1]
      by_cases h2 : bt s i ≥ 48 <;> by_cases h3 : bt s i ≤ 57 <;> by_cases h4 : bt s i = 95 <;> simp [h1, h2, h3, h4] <;> omega
theorem specIsName_eq (s : ByteArray) (hs : s.size ≤ 140737488351232) (k : Nat) (hk : 14 < k) : spec_IsName.f k s = some (isNm s) := by
  unfold spec_IsName.f isNm
  obtain ⟨k, rfl⟩ : ∃ m, k = m + 1 := ⟨k - 1, by omega⟩
  simp only [spec_IsName.j0, specLetter_eq, obind]
  by_cases h0 : (s.size : Int) = 0
  · rw [if_pos h0]; simp; omega
  · rw [if_neg h0]
    by_cases h1 : (s.size : Int) > 12
    · rw [if_pos h1]; simp; omega
    · rw [if_neg h1, if_pos (by omega)]
      have hn := specIsName_l0 s hs (s.size - 1) k 1 (by omega) (by omega)
      have e : ((1 : Nat) : Int) = 1 := rfl
      rw [e] at hn
      rw [hn]
      have h2 : 1 ≤ s.size := by omega
      have h3 : s.size ≤ 12 := by omega
      by_cases hl : isLetter (bt s 0) = true <;> simp [hl, h2, h3]

/-! ### specHeapOk -/
theorem specHeapOk_l0 (d : Nat) : ∀ (k : Nat) (a b : List ByteArray), b.length = d → d + 15 < k → a.length + d ≤ 1099511627776 → (∀ s ∈ b, s.size ≤ 140737488351232) →
    spec_l16Ok.l0 k ((a ++ b).length : Int) a.length (a ++ b) = some (okNames b) := by
  induction d with
  | zero =>
    intro k a b hb hk hl hs
    obtain ⟨k, rfl⟩ : ∃ m, k = m + 1 := ⟨k - 1, by omega⟩
    obtain rfl : b = [] := List.eq_nil_of_length_eq_zero hb
    simp only [spec_l16Ok.l0]
    rw [if_neg (by simp)]
    rfl
  | succ d ih =>
    intro k a b hb hk hl hs
    obtain ⟨k, rfl⟩ : ∃ m, k = m + 1 := ⟨k - 1, by omega⟩
    match b, hb with
    | x :: b, hb =>
    have hi := ih k (a ++ [x]) b (by simpa using hb) (by omega) (by simp; omega) (fun s h => hs s (List.mem_cons_of_mem _ h))
    rw [List.append_assoc, List.singleton_append, show ((a ++ [x]).length : Int) = (a.length : Int) + 1 by simp] at hi
    simp only [spec_l16Ok.l0]
    rw [if_pos (by simp; omega), if_pos (by omega), if_pos (by simp; omega), rdOf_at, w64 (x := (a.length : Int) + 1) (by omega) (by omega), hi, specIsName_eq x (hs x (List.mem_cons_self ..)) k (by omega)]
    simp only [obind, okNames]
    by_cases hz : x.size = 0
    · rw [if_pos ((toList_nil x).2 hz)]; simp [hz]
    · rw [if_neg (fun h => hz ((toList_nil x).1 h))]
      cases isNm x <;> simp [hz]
theorem specHeapOk_eq (l : List ByteArray) (hl : l.length ≤ 1099511627776) (hs : ∀ s ∈ l, s.size ≤ 140737488351232) (k : Nat) (hk : l.length + 20 < k) : spec_l16Ok.f k l = some (okHeap l) := by
  unfold spec_l16Ok.f okHeap
  obtain ⟨k, rfl⟩ : ∃ m, k = m + 1 := ⟨k - 1, by omega⟩
  have h0 := specHeapOk_l0 l.length k [] l rfl (by omega) (by simpa using hl) hs
  rw [List.nil_append, show (([] : List ByteArray).length : Int) = 0 from rfl] at h0
  simp only [spec_l16Ok.j0]
  by_cases h1 : (l.length : Int) > 30
  · rw [if_pos h1]; simp; omega
  · have h30 : l.length ≤ 30 := by omega
    rw [if_neg h1]
    by_cases h2 : (l.length : Int) > 0
    · have hne : ¬ l.length = 0 := by omega
      rw [if_pos h2, w64 (x := (l.length : Int) - 1) (by omega) (by omega), if_pos (by omega), if_pos (by omega), h0]
      generalize rdOf ByteArray.empty l ((l.length : Int) - 1) = x
      by_cases hz : x.size = 0
      · have he := (toList_nil x).2 hz
        simp [he, hz, hne]
      · have he : ¬ x.toList = ([] : List UInt8) := fun h => hz ((toList_nil x).1 h)
        simp [he, hz, h30]
    · have hn : l.length = 0 := by omega
      rw [if_neg h2, h0]
      simp [hn]

/-! ### implDrop -/
/-- The names without the empty ones behind. -/
def trim (X : List ByteArray) : Nat → Nat
  | 0 => 0
  | n + 1 => if (rdOf ByteArray.empty X n).toList = ([] : List UInt8) then trim X n else n + 1
theorem trim_le (X : List ByteArray) : ∀ n, trim X n ≤ n
  | 0 => Nat.le_refl _
  | n + 1 => by
    unfold trim
    split
    · have := trim_le X n; omega
    · omega
theorem rdOf_take (X : List ByteArray) (n m : Nat) (h : m < n) : rdOf ByteArray.empty (X.take n) m = rdOf ByteArray.empty X m := by
  simp [rdOf, List.getD, h]
theorem implDrop_l0 (X : List ByteArray) (hX : X.length ≤ 1099511627776) (n : Nat) : ∀ k, n ≤ X.length → n < k → impl_NameHeap_drop.l0 k n (X.take n) = some (X.take (trim X n)) := by
  induction n with
  | zero =>
    intro k hn hk
    obtain ⟨k, rfl⟩ : ∃ m, k = m + 1 := ⟨k - 1, by omega⟩
    simp only [impl_NameHeap_drop.l0]
    rw [if_neg (by omega)]
    rfl
  | succ n ih =>
    intro k hn hk
    obtain ⟨k, rfl⟩ : ∃ m, k = m + 1 := ⟨k - 1, by omega⟩
    have hlen : ((X.take (n + 1)).length : Int) = n + 1 := by rw [List.length_take]; omega
    simp only [impl_NameHeap_drop.l0]
    rw [if_pos (by omega), w64 (x := ((n + 1 : Nat) : Int) - 1) (by omega) (by omega), show ((n + 1 : Nat) : Int) - 1 = n by omega, hlen, if_pos (by omega), if_pos (by omega), rdOf_take X (n + 1) n (by omega), if_pos (show ((n : Nat) : Int) ≤ (n : Int) + 1 by omega), Int.toNat_natCast, List.take_take, Nat.min_eq_left (by omega : n ≤ n + 1), ih k (by omega) (by omega)]
    rw [show trim X (n + 1) = if (rdOf ByteArray.empty X n).toList = ([] : List UInt8) then trim X n else n + 1 from rfl]
    by_cases h : (rdOf ByteArray.empty X n).toList = ([] : List UInt8)
    · rw [if_pos h, if_pos h]
    · rw [if_neg h, if_neg h]

/-! ### cut -/
theorem cut_yes (s : ByteArray) (a n : Int) (hs : s.size ≤ 140737488351232) (h0 : 0 ≤ n) (h1 : 0 ≤ a) (h2 : a + n ≤ s.size) :
    impl_cut.f s a n = some (s.extract a.toNat (a + n).toNat, true) := by
  unfold impl_cut.f
  rw [if_neg (by omega), w64 (by omega) (by omega), within_eq, w64 (by omega) (by omega)]
  simp only [obind]
  rw [if_pos (by simp; omega), if_pos h1, if_pos (by omega), if_pos h2]
theorem cut_no (s : ByteArray) (a n : Int) (hs : s.size ≤ 140737488351232) (hn : -9223372036854775808 ≤ n ∧ n ≤ 9223372036854775807)
    (h : n < 0 ∨ a < 0 ∨ s.size < a + n) : impl_cut.f s a n = some ((⟨#[]⟩ : ByteArray), false) := by
  unfold impl_cut.f
  by_cases hn0 : n < 0
  · rw [if_pos hn0]
  · rw [if_neg hn0, w64 (by omega) (by omega), within_eq]
    simp only [obind]
    rw [if_neg (by simp; omega)]

/-! ### getBits -/
theorem getBits_l0 (s : ByteArray) (hs : s.size ≤ 8) (d : Nat) : ∀ (k i : Nat), i + d = s.size → d < k →
    impl_getBits.l0 k s (le s 0 i) s.size i = some (le s 0 s.size) := by
  induction d with
  | zero =>
    intro k i hi hk
    obtain ⟨k, rfl⟩ : ∃ m, k = m + 1 := ⟨k - 1, by omega⟩
    simp only [impl_getBits.l0]
    rw [if_neg (by omega), show i = s.size by omega]
  | succ d ih =>
    intro k i hi hk
    obtain ⟨k, rfl⟩ : ∃ m, k = m + 1 := ⟨k - 1, by omega⟩
    simp only [impl_getBits.l0]
    rw [if_pos (by omega), if_pos (by omega), if_pos (by omega), w64 (x := 8 * (i : Int)) (by omega) (by omega), if_pos (by omega), w64 (x := (i : Int) + 1) (by omega) (by omega)]
    obtain ⟨b0, b1⟩ := bt_range s i
    obtain ⟨l0, l1⟩ := le_bd s 0 i
    rw [wrap_u64, Int.emod_eq_of_lt b0 (by omega)]
    rw [or_shl_byte (le s 0 i) (bt s i) i (by omega) l0 l1 b0 b1]
    have := ih k (i + 1) (by omega) (by omega)
    rw [← this]
    simp [le]
theorem getBits_eq (s : ByteArray) (hs : s.size ≤ 8) (k : Nat) (hk : 8 < k) : impl_getBits.f k s = some (le s 0 s.size) := by
  unfold impl_getBits.f
  exact getBits_l0 s hs s.size k 0 (by omega) (by omega)

/-! ### decoder -/
theorem extract_all_size (s : ByteArray) (i : Nat) : (s.extract i s.size).size = s.size - i := by rw [size_extract _ _ _ (Nat.le_refl _)]
theorem take_yes (r : ByteArray) (b : Bool) (n : Int) (hr : r.size ≤ 140737488351232) (h0 : 0 ≤ n) (h1 : n ≤ r.size) :
    impl_decoder_take.f r b n = some (r.extract 0 n.toNat, r.extract n.toNat r.size, b) := by
  unfold impl_decoder_take.f
  rw [cut_yes r 0 n hr h0 (by omega) (by omega)]
  simp only [obind, if_true]
  rw [if_pos h0, if_pos h1, Int.zero_add]
  rfl
theorem take_no (r : ByteArray) (b : Bool) (n : Int) (hr : r.size ≤ 140737488351232) (hn : -9223372036854775808 ≤ n ∧ n ≤ 9223372036854775807) (h : n < 0 ∨ r.size < n) :
    impl_decoder_take.f r b n = some ((⟨#[]⟩ : ByteArray), r, true) := by
  unfold impl_decoder_take.f
  rw [cut_no r 0 n hr hn (by omega)]
  simp only [obind]
  rw [if_neg (by simp)]
theorem number_yes (r : ByteArray) (b : Bool) (n : Int) (hr : r.size ≤ 140737488351232) (h0 : 0 ≤ n) (h8 : n ≤ 8) (h1 : n ≤ r.size) (k : Nat) (hk : 8 < k) :
    impl_decoder_number.f k r b n = some (wrap64 (le r 0 n.toNat), r.extract n.toNat r.size, b) := by
  unfold impl_decoder_number.f
  rw [take_yes r b n hr h0 h1]
  have hs : (r.extract 0 n.toNat).size = n.toNat := by rw [size_extract _ _ _ (by omega)]; omega
  simp only [obind]
  rw [getBits_eq _ (by omega) k hk, hs, le_extract r 0 n.toNat (by omega) n.toNat (by omega)]
  simp only [obind]
  rfl
theorem number_no (r : ByteArray) (b : Bool) (n : Int) (hr : r.size ≤ 140737488351232) (hn : -9223372036854775808 ≤ n ∧ n ≤ 9223372036854775807) (h : n < 0 ∨ r.size < n) (k : Nat) (hk : 8 < k) :
    impl_decoder_number.f k r b n = some (0, r, true) := by
  unfold impl_decoder_number.f
  rw [take_no r b n hr hn h]
  simp only [obind]
  rw [getBits_eq (⟨#[]⟩ : ByteArray) (Nat.zero_le _) k hk]
  simp only [obind]
  show some (wrap64 0, r, true) = _
  rw [w64 (by omega) (by omega)]
theorem byte_yes (r : ByteArray) (b : Bool) (hr : r.size ≤ 140737488351232) (h1 : 0 < r.size) (k : Nat) (hk : 8 < k) : impl_decoder_byte.f k r b = some (bt r 0, r.extract 1 r.size, b) := by
  unfold impl_decoder_byte.f
  rw [number_yes r b 1 hr (by omega) (by omega) (by omega) k hk]
  simp only [obind]
  obtain ⟨b0, b1⟩ := bt_range r 0
  have e : le r 0 (1 : Int).toNat = bt r 0 := by
    show le r 0 1 = _
    simp [le]
  rw [e, w64 (by omega) (by omega)]
  rfl
theorem byte_no (r : ByteArray) (b : Bool) (h1 : r.size = 0) (k : Nat) (hk : 8 < k) : impl_decoder_byte.f k r b = some (0, r, true) := by
  unfold impl_decoder_byte.f
  rw [number_no r b 1 (by omega) (by omega) (by omega) k hk]
  simp only [obind]

/-! ### extracts -/
theorem extract_tail (s : ByteArray) (i j : Nat) (h : i + j ≤ s.size) : (s.extract i s.size).extract j (s.extract i s.size).size = s.extract (i + j) s.size := by
  have h0 := extract_all_size s i
  have h1 := extract_all_size s (i + j)
  apply ba_ext
  · rw [extract_all_size, h0, h1]; omega
  · intro q hq
    rw [extract_all_size, h0] at hq
    rw [bt_extract _ j _ q (by omega) (by omega) (Nat.le_refl _), show ((j : Int) + q) = ((j + q : Nat) : Int) by omega, bt_extract s i s.size _ (by omega) (by omega) (Nat.le_refl _), bt_extract s (i + j) s.size q (by omega) (by omega) (Nat.le_refl _)]
    congr 1
    omega
theorem extract_head (s : ByteArray) (i j : Nat) (h : i + j ≤ s.size) : (s.extract i s.size).extract 0 j = s.extract i (i + j) := by
  have h0 := extract_all_size s i
  apply ba_ext
  · rw [size_extract _ _ _ (by omega), size_extract _ _ _ h]; omega
  · intro q hq
    rw [size_extract _ _ _ (by omega)] at hq
    rw [bt_extract _ 0 _ q (by omega) (by omega) (by omega), show (((0 : Nat) : Int) + q) = q by omega, bt_extract s i s.size _ (by omega) (by omega) (Nat.le_refl _), bt_extract s i (i + j) q (by omega) (by omega) h]
theorem extract_whole (s : ByteArray) : s.extract 0 s.size = s := by
  apply ba_ext
  · rw [extract_all_size]; rfl
  · intro q hq
    rw [extract_all_size] at hq
    rw [bt_extract s 0 s.size q (by omega) (by omega) (Nat.le_refl _)]
    congr 1
    omega
theorem bt_tail0 (s : ByteArray) (i : Nat) (h : i < s.size) : bt (s.extract i s.size) 0 = bt s i := by
  have := bt_extract s i s.size 0 (by omega) (by omega) (Nat.le_refl _)
  rw [this]
  congr 1
theorem extract_none (s : ByteArray) (i : Nat) (h : i ≤ s.size) : s.extract i i = (⟨#[]⟩ : ByteArray) := by
  apply ba_ext
  · rw [size_extract _ _ _ h, Nat.sub_self]; rfl
  · intro q hq
    rw [size_extract _ _ _ h] at hq
    omega

/-! ### decByte -/
theorem dec_byte (s : ByteArray) (i : Nat) (b : Bool) (hs : s.size ≤ 140737488351232) (hi : i ≤ s.size) : ∃ (v : Int) (i' : Nat) (b' : Bool), i' ≤ s.size ∧ 0 ≤ v ∧ v ≤ 255 ∧ (b = true → b' = true) ∧
    (∀ k : Nat, 8 < k → impl_decoder_byte.f k (s.extract i s.size) b = some (v, s.extract i' s.size, b')) ∧ (i < s.size → v = bt s i ∧ i' = i + 1 ∧ b' = b) ∧ (s.size ≤ i → v = 0 ∧ i' = i ∧ b' = true) := by
  have hz := extract_all_size s i
  by_cases h : i < s.size
  · obtain ⟨b0, b1⟩ := bt_range s i
    refine ⟨bt s i, i + 1, b, by omega, b0, b1, fun h => h, fun k hk => ?_, fun _ => ⟨rfl, rfl, rfl⟩, fun _ => by omega⟩
    rw [byte_yes _ b (by omega) (by omega) k hk, bt_tail0 s i h, extract_tail s i 1 (by omega)]
  · refine ⟨0, i, true, hi, by omega, by omega, fun _ => rfl, fun k hk => ?_, fun _ => by omega, fun _ => ⟨rfl, rfl, rfl⟩⟩
    rw [byte_no _ b (by omega) k hk]

/-! ### decoderName -/
/-- A name that is read: its length, its bytes. -/
theorem name_ok (s : ByteArray) (i : Nat) (b : Bool) (hs : s.size ≤ 140737488351232) (h : i < s.size) (h2 : i + 1 + (bt s i).toNat ≤ s.size) (k : Nat) (hk : 8 < k) :
    impl_decoder_name.f k (s.extract i s.size) b = some (s.extract (i + 1) (i + 1 + (bt s i).toNat), s.extract (i + 1 + (bt s i).toNat) s.size, b) := by
  have h0 := extract_all_size s i
  have h1 := extract_all_size s (i + 1)
  obtain ⟨b0, b1⟩ := bt_range s i
  unfold impl_decoder_name.f
  rw [byte_yes _ b (by omega) (by omega) k hk, bt_tail0 s i h, extract_tail s i 1 (by omega)]
  simp only [obind]
  rw [take_yes _ b _ (by omega) b0 (by omega), extract_head s (i + 1) _ h2, extract_tail s (i + 1) _ h2]
  simp only [obind]
theorem name_short (s : ByteArray) (i : Nat) (b : Bool) (hs : s.size ≤ 140737488351232) (h : i < s.size) (h2 : s.size < i + 1 + (bt s i).toNat) (k : Nat) (hk : 8 < k) :
    impl_decoder_name.f k (s.extract i s.size) b = some ((⟨#[]⟩ : ByteArray), s.extract (i + 1) s.size, true) := by
  have h0 := extract_all_size s i
  have h1 := extract_all_size s (i + 1)
  obtain ⟨b0, b1⟩ := bt_range s i
  unfold impl_decoder_name.f
  rw [byte_yes _ b (by omega) (by omega) k hk, bt_tail0 s i h, extract_tail s i 1 (by omega)]
  simp only [obind]
  rw [take_no _ b _ (by omega) (by omega) (by omega)]
  simp only [obind]
theorem name_none (s : ByteArray) (b : Bool) (hs : s.size = 0) (k : Nat) (hk : 8 < k) : ∃ r, impl_decoder_name.f k s b = some ((⟨#[]⟩ : ByteArray), r, true) ∧ r.size = 0 := by
  unfold impl_decoder_name.f
  rw [byte_no s b hs k hk]
  simp only [obind]
  rw [take_yes s true 0 (by omega) (by omega) (by omega)]
  simp only [obind]
  refine ⟨_, by rw [show (0 : Int).toNat = 0 from rfl, extract_none s 0 (by omega)], ?_⟩
  rw [size_extract _ _ _ (Nat.le_refl _)]
  omega

/-! ### shrBytes -/
theorem shr_bytes (n : Int) (j : Nat) (h : j < 8) : shr .i64 n (8 * (j : Int)) = n / 256 ^ j := by
  unfold shr
  rw [show min (8 * (j : Int)).toNat IntKind.i64.bits = 8 * j by simp [IntKind.bits]; omega, pow256]

/-! ### putBytes -/
theorem putBytes_l0 (n : Int) (D : Nat) (hD : D ≤ 8) (d : Nat) : ∀ (k i : Nat), i + d = D → d < k → impl_putBytes.l0 k n (bytesN n i ++ List.replicate d 0) D i = some (strOfNums (bytesN n D)) := by
  induction d with
  | zero =>
    intro k i hi hk
    obtain ⟨k, rfl⟩ : ∃ m, k = m + 1 := ⟨k - 1, by omega⟩
    simp only [impl_putBytes.l0]
    rw [if_neg (by omega)]
    simp [show i = D by omega]
  | succ d ih =>
    intro k i hi hk
    obtain ⟨k, rfl⟩ : ∃ m, k = m + 1 := ⟨k - 1, by omega⟩
    simp only [impl_putBytes.l0]
    rw [if_pos (by omega), w64 (x := 8 * (i : Int)) (by omega) (by omega), if_pos (by omega), if_pos (by omega), if_pos (by simp [bytesN_length]; omega), w64 (x := (i : Int) + 1) (by omega) (by omega), shr_bytes n i (by omega)]
    have := ih k (i + 1) (by omega) (by omega)
    rw [bytesN_succ] at this
    rw [← this]
    congr 1
    rw [List.replicate_succ]
    have hl := bytesN_length n i
    generalize bytesN n i = l at *
    subst hl
    simp
theorem putBytes_eq (n a : Int) (h0 : 0 ≤ a) (h1 : a ≤ 8) (k : Nat) (hk : 8 < k) : impl_putBytes.f k n a = some (strOfNums (bytesN n a.toNat)) := by
  unfold impl_putBytes.f
  rw [if_pos h0, if_pos (by omega)]
  simp only [obind, List.length_replicate]
  exact putBytes_l0 n a.toNat (by omega) a.toNat k 0 (by omega) (by omega)

/-! ### putUModel -/
def putU (n a : Int) : ByteArray := if 1 ≤ a ∧ a ≤ 8 ∧ 0 ≤ n ∧ (a < 8 → n / 256 ^ a.toNat = 0) then strOfNums (bytesN n a.toNat) else ⟨#[]⟩
theorem shr_all (n a : Int) (h0 : 0 ≤ a) (h8 : a < 8) : shr .i64 n (8 * a) = n / 256 ^ a.toNat := by
  obtain ⟨j, rfl⟩ := Int.eq_ofNat_of_zero_le h0
  exact shr_bytes n j (by omega)

/-! ### byteText -/
theorem byteText (s : ByteArray) (a : Nat) (h : a < s.size) : strOfNums (bytesN (bt s a) 1) = s.extract a (a + 1) := by
  have h0 := bytes_le s a 1 (by omega)
  have : le s a 1 = bt s a := by simp [le]
  rw [this] at h0
  exact h0
theorem ext_app (s : ByteArray) (a b c : Nat) (h : a ≤ b) (h2 : b ≤ c) : s.extract a b ++ s.extract b c = s.extract a c := by
  rw [ByteArray.extract_append_extract, Nat.min_eq_left h, Nat.max_eq_right h2]
theorem ba_toList {s t : ByteArray} (h : s.toList = t.toList) : s = t := by
  rw [Go.ByteArray.toList_eq, Go.ByteArray.toList_eq] at h
  exact ByteArray.ext (Array.ext' h)

theorem bt_append_right (a b : ByteArray) (i : Nat) (h : i < b.size) : bt (a ++ b) (a.size + i : Nat) = bt b i := by
  have h2 : a.size + i < (a ++ b).size := by rw [ByteArray.size_append]; omega
  rw [bt_of h, bt_of h2]
  rw [ByteArray.getElem_append_right (by omega)]
  simp
def fst (x : ByteArray) : List ByteArray → Nat → Int
  | [], _ => -1
  | y :: b, i => if x.toList = y.toList then (i : Int) else fst x b (i + 1)
theorem rd_nat (l : List ByteArray) (n : Nat) : rdOf ByteArray.empty l (n : Int) = l.getD n ByteArray.empty := by simp [rdOf]
theorem rd_cons_succ (y : ByteArray) (b : List ByteArray) (n : Nat) : rdOf ByteArray.empty (y :: b) ((n + 1 : Nat) : Int) = rdOf ByteArray.empty b (n : Int) := by rw [rd_nat, rd_nat]; simp
theorem rd_cons_zero (y : ByteArray) (b : List ByteArray) : rdOf ByteArray.empty (y :: b) ((0 : Nat) : Int) = y := by rw [rd_nat]; simp
theorem fst_spec (x : ByteArray) : ∀ (b : List ByteArray) (i : Nat), (fst x b i = -1 ∧ ∀ y ∈ b, ¬ x.toList = y.toList) ∨
    (∃ n : Nat, n < b.length ∧ fst x b i = ((i + n : Nat) : Int) ∧ x.toList = (rdOf ByteArray.empty b (n : Int)).toList ∧ ∀ m : Nat, m < n → ¬ x.toList = (rdOf ByteArray.empty b (m : Int)).toList)
  | [], i => .inl ⟨rfl, by simp⟩
  | y :: b, i => by
    unfold fst
    by_cases h : x.toList = y.toList
    · rw [if_pos h]
      exact .inr ⟨0, by simp, by simp, by rw [rd_cons_zero]; exact h, fun m hm => by omega⟩
    · rw [if_neg h]
      rcases fst_spec x b (i + 1) with ⟨h1, h2⟩ | ⟨n, h1, h2, h3, h4⟩
      · refine .inl ⟨h1, fun z hz => ?_⟩
        rcases List.mem_cons.1 hz with rfl | hz
        · exact h
        · exact h2 z hz
      · refine .inr ⟨n + 1, by simp; omega, by rw [h2]; congr 1; omega, by rw [rd_cons_succ]; exact h3, fun m hm => ?_⟩
        match m with
        | 0 => rw [rd_cons_zero]; exact h
        | m + 1 => rw [rd_cons_succ]; exact h4 m (by omega)
theorem implIndex_l0 (x : ByteArray) (d : Nat) : ∀ (k : Nat) (a b : List ByteArray), b.length = d → d < k → a.length + d ≤ 1099511627776 →
    slices_Index_string_string.l0 k (a ++ b) x ((a ++ b).length : Int) a.length = some (fst x b a.length) := by
  induction d with
  | zero =>
    intro k a b hb hk hl
    obtain ⟨k, rfl⟩ : ∃ m, k = m + 1 := ⟨k - 1, by omega⟩
    obtain rfl : b = [] := List.eq_nil_of_length_eq_zero hb
    simp only [slices_Index_string_string.l0]
    rw [if_neg (by simp)]
    rfl
  | succ d ih =>
    intro k a b hb hk hl
    obtain ⟨k, rfl⟩ : ∃ m, k = m + 1 := ⟨k - 1, by omega⟩
    match b, hb with
    | y :: b, hb =>
    have hi := ih k (a ++ [y]) b (by simpa using hb) (by omega) (by simp; omega)
    rw [List.append_assoc, List.singleton_append, show (a ++ [y]).length = a.length + 1 by simp, show ((a.length + 1 : Nat) : Int) = (a.length : Int) + 1 by omega] at hi
    simp only [slices_Index_string_string.l0]
    rw [if_pos (by simp; omega), if_pos (by omega), if_pos (by simp; omega), rdOf_at, w64 (x := (a.length : Int) + 1) (by omega) (by omega), hi]
    unfold fst
    by_cases h : x.toList = y.toList
    · rw [if_pos h, if_pos h]
    · rw [if_neg h, if_neg h]
      cases b <;> rfl
theorem specSlot_l0 (x : ByteArray) (d : Nat) : ∀ (k : Nat) (a b : List ByteArray), b.length = d → d < k → a.length + d ≤ 1099511627776 →
    spec_l16Slot.l0 k x a.length (a ++ b) = some (fst x b a.length) := by
  induction d with
  | zero =>
    intro k a b hb hk hl
    obtain ⟨k, rfl⟩ : ∃ m, k = m + 1 := ⟨k - 1, by omega⟩
    obtain rfl : b = [] := List.eq_nil_of_length_eq_zero hb
    simp only [spec_l16Slot.l0]
    rw [if_neg (by simp)]
    rfl
  | succ d ih =>
    intro k a b hb hk hl
    obtain ⟨k, rfl⟩ : ∃ m, k = m + 1 := ⟨k - 1, by omega⟩
    match b, hb with
    | y :: b, hb =>
    have hi := ih k (a ++ [y]) b (by simpa using hb) (by omega) (by simp; omega)
    rw [List.append_assoc, List.singleton_append, show (a ++ [y]).length = a.length + 1 by simp, show ((a.length + 1 : Nat) : Int) = (a.length : Int) + 1 by omega] at hi
    simp only [spec_l16Slot.l0]
    rw [if_pos (by simp; omega), if_pos (by omega), rdOf_at, w64 (x := (a.length : Int) + 1) (by omega) (by omega), hi]
    unfold fst
    by_cases h : x.toList = y.toList
    · rw [if_pos h.symm, if_pos h]
    · rw [if_neg (fun e => h e.symm), if_neg h]
      cases b <;> rfl
theorem implIndex_eq (x : ByteArray) (l : List ByteArray) (hl : l.length ≤ 1000) (k : Nat) (hk : 1001 < k) : slices_Index_string_string.f k l x = some (fst x l 0) := by
  unfold slices_Index_string_string.f
  exact implIndex_l0 x l.length k [] l rfl (by omega) (by simp; omega)
theorem specSlot_eq (x : ByteArray) (l : List ByteArray) (hl : l.length ≤ 1000) (k : Nat) (hk : 1001 < k) : spec_l16Slot.f k l x = some (fst x l 0) := by
  unfold spec_l16Slot.f
  exact specSlot_l0 x l.length k [] l rfl (by omega) (by simp; omega)
def putM (l : List ByteArray) (nm : ByteArray) : List ByteArray × Int × Int :=
  if 0 ≤ fst ⟨#[]⟩ l 0 then (l.set (fst ⟨#[]⟩ l 0).toNat nm, fst ⟨#[]⟩ l 0, 0) else if 30 ≤ l.length then ([], 0, 5) else (l ++ [nm], (l.length : Int), 0)
theorem fst_lt (x : ByteArray) (l : List ByteArray) : fst x l 0 < l.length := by
  rcases fst_spec x l 0 with ⟨h, _⟩ | ⟨n, h1, h2, _⟩
  · omega
  · omega
theorem implPut_eq (l : List ByteArray) (nm : ByteArray) (hl : l.length ≤ 1000) (k : Nat) (hk : 1001 < k) : impl_NameHeap_put.f k l nm = some (putM l nm) := by
  unfold impl_NameHeap_put.f slices_Clone_string_string.f putM
  have q : l.length < 8796093022208 := by omega
  have hlt := fst_lt ⟨#[]⟩ l
  simp only [obind, List.nil_append, List.length_nil, Nat.zero_add, if_pos q]
  rw [implIndex_eq _ l hl k hk]
  simp only [obind]
  by_cases h : 0 ≤ fst ⟨#[]⟩ l 0
  · rw [if_pos h, if_pos h, if_pos h, if_pos hlt]
  · rw [if_neg h, if_neg h]
    by_cases h2 : 30 ≤ l.length
    · rw [if_pos h2, if_pos (by omega)]
    · rw [if_neg h2, if_neg (by omega)]
def putAll (l : List ByteArray) (nm : ByteArray) : List ByteArray × Int × Int := if okHeap l = true ∧ isNm nm = true then putM l nm else ([], 0, 1)
theorem implPutName_eq (l : List ByteArray) (nm : ByteArray) (hl : l.length ≤ 1000) (hs : small l) (hn : nm.size ≤ 20) (k : Nat) (hk : 2000 < k) : impl_PutName.f k l nm = some (putAll l nm) := by
  unfold impl_PutName.f putAll
  rw [implValidHeap_eq 20 l (by omega) hs (by omega) k (by omega), implIsName_eq nm (by omega) k (by omega), implPut_eq l nm hl k (by omega)]
  simp only [obind]
  by_cases h : okHeap l = true
  · by_cases h2 : isNm nm = true
    · rw [if_pos h, if_pos h2, if_pos ⟨h, h2⟩]
    · rw [if_pos h, if_neg h2, if_neg (fun e => h2 e.2)]
  · rw [if_neg h, if_neg (fun e => h e.1)]
theorem specPutName_eq (l : List ByteArray) (nm : ByteArray) (hl : l.length ≤ 1000) (hs : small l) (hn : nm.size ≤ 20) (k : Nat) (hk : 2000 < k) : spec_PutName.f k l nm = some (putAll l nm) := by
  unfold spec_PutName.f putAll
  obtain ⟨k, rfl⟩ : ∃ m, k = m + 1 := ⟨k - 1, by omega⟩
  rw [specHeapOk_eq l (by omega) (fun s h => by have := hs s h; omega) (k + 1) (by omega), specIsName_eq nm (by omega) (k + 1) (by omega)]
  have q : l.length < 8796093022208 := by omega
  have hlt := fst_lt ⟨#[]⟩ l
  simp only [obind, spec_PutName.j0]
  unfold spec_l16Own.f
  rw [specSlot_eq _ l hl k (by omega)]
  simp only [obind, List.nil_append, List.length_nil, Nat.zero_add, if_pos q, if_true]
  by_cases h : okHeap l = true
  · by_cases h2 : isNm nm = true
    · have e : okHeap l = true ∧ isNm nm = true := ⟨h, h2⟩
      have e2 : ¬ (!isNm nm) = true := by simp [h2]
      rw [if_pos e, if_pos h, if_neg e2]
      unfold putM
      by_cases h3 : 0 ≤ fst ⟨#[]⟩ l 0
      · rw [if_pos h3, if_pos h3, if_pos h3, if_pos hlt]
      · rw [if_neg h3, if_neg h3]
        by_cases h4 : 30 ≤ l.length
        · rw [if_pos h4, if_pos (by omega)]
        · rw [if_neg h4, if_neg (by omega)]
    · have e : ¬ (okHeap l = true ∧ isNm nm = true) := fun z => h2 z.2
      have e2 : (!isNm nm) = true := by simp [h2]
      rw [if_neg e, if_pos h, if_pos e2]
  · have e : ¬ (okHeap l = true ∧ isNm nm = true) := fun z => h z.1
    rw [if_neg e, if_neg h]
theorem okNames_iff (l : List ByteArray) : okNames l = true ↔ ∀ s ∈ l, s.size = 0 ∨ isNm s = true := by
  induction l with
  | nil => simp [okNames]
  | cons x l ih => simp [okNames, ih]
theorem isNm_pos {s : ByteArray} (h : isNm s = true) : 1 ≤ s.size ∧ s.size ≤ 12 := by
  unfold isNm at h
  simp only [Bool.and_eq_true, decide_eq_true_eq] at h
  exact h.1.1
theorem okHeap_iff (l : List ByteArray) : okHeap l = true ↔ l.length ≤ 30 ∧ (l.length = 0 ∨ (rdOf ByteArray.empty l ((l.length : Int) - 1)).size ≠ 0) ∧ okNames l = true := by
  unfold okHeap
  simp only [Bool.and_eq_true, Bool.or_eq_true, decide_eq_true_eq]
  constructor
  · rintro ⟨⟨a, b⟩, c⟩; exact ⟨a, b, c⟩
  · rintro ⟨a, b, c⟩; exact ⟨⟨a, b⟩, c⟩
theorem rd_set_eq (l : List ByteArray) (n : Nat) (x : ByteArray) (h : n < l.length) : rdOf ByteArray.empty (l.set n x) (n : Int) = x := by rw [rd_nat]; simp [List.getD, h]
theorem rd_set_ne (l : List ByteArray) (n i : Nat) (x : ByteArray) (h : i ≠ n) : rdOf ByteArray.empty (l.set n x) (i : Int) = rdOf ByteArray.empty l (i : Int) := by
  rw [rd_nat, rd_nat]; simp only [List.getD]; rw [List.getElem?_set_ne (fun e => h e.symm)]
theorem rd_app_lt (l : List ByteArray) (i : Nat) (x : ByteArray) (h : i < l.length) : rdOf ByteArray.empty (l ++ [x]) (i : Int) = rdOf ByteArray.empty l (i : Int) := by
  rw [rd_nat, rd_nat]; simp only [List.getD]; rw [List.getElem?_append_left h]
theorem rd_take_lt (l : List ByteArray) (i n : Nat) (h : i < n) : rdOf ByteArray.empty (l.take n) (i : Int) = rdOf ByteArray.empty l (i : Int) := rdOf_take l n i h
theorem put_ok (l : List ByteArray) (nm : ByteArray) (h : okHeap l = true) (hn : isNm nm = true) (hs : small l) (hc : (putM l nm).2.2 = 0) :
    ∃ n : Nat, (putM l nm).2.1 = n ∧ n < (putM l nm).1.length ∧ rdOf ByteArray.empty (putM l nm).1 (n : Int) = nm ∧ okHeap (putM l nm).1 = true ∧ l.length ≤ (putM l nm).1.length ∧
      (∀ i : Nat, i < l.length → i ≠ n → rdOf ByteArray.empty (putM l nm).1 (i : Int) = rdOf ByteArray.empty l (i : Int)) ∧ small (putM l nm).1 := by
  obtain ⟨p1, p2⟩ := isNm_pos hn
  obtain ⟨h1, h2, h3⟩ := (okHeap_iff l).1 h
  rw [okNames_iff] at h3
  unfold putM at hc ⊢
  by_cases c : 0 ≤ fst ⟨#[]⟩ l 0
  · rw [if_pos c]
    rcases fst_spec ⟨#[]⟩ l 0 with ⟨e, _⟩ | ⟨n, a1, a2, a3, a4⟩
    · omega
    · rw [a2]
      simp only [Nat.zero_add, Int.toNat_natCast]
      refine ⟨n, rfl, by simp [a1], rd_set_eq l n nm a1, ?_, by simp, fun i _ hi => rd_set_ne l n i nm hi, ?_⟩
      · rw [okHeap_iff, okNames_iff]
        refine ⟨by simpa using h1, .inr ?_, ?_⟩
        · rw [List.length_set, show (l.length : Int) - 1 = ((l.length - 1 : Nat) : Int) by omega]
          by_cases hl : l.length - 1 = n
          · rw [hl, rd_set_eq l n nm a1]; omega
          · rw [rd_set_ne l n _ nm hl]
            rcases h2 with h2 | h2
            · omega
            · rw [show (l.length : Int) - 1 = ((l.length - 1 : Nat) : Int) by omega] at h2
              exact h2
        · intro s hm
          rcases List.mem_or_eq_of_mem_set hm with hm | rfl
          · exact h3 s hm
          · exact .inr hn
      · intro s hm
        rcases List.mem_or_eq_of_mem_set hm with hm | rfl
        · exact hs s hm
        · omega
  · rw [if_neg c] at hc ⊢
    by_cases c2 : 30 ≤ l.length
    · rw [if_pos c2] at hc
      exact absurd hc (by decide)
    · rw [if_neg c2]
      refine ⟨l.length, rfl, by simp, rdOf_at _ _ _ _, ?_, by simp, fun i hi _ => rd_app_lt l i nm hi, small_app hs (small_one (by omega))⟩
      rw [okHeap_iff, okNames_iff]
      refine ⟨by simp; omega, .inr ?_, ?_⟩
      · rw [show (((l ++ [nm]).length : Nat) : Int) - 1 = (l.length : Int) by simp, rdOf_at]
        omega
      · intro s hm
        rcases List.mem_append.1 hm with hm | hm
        · exact h3 s hm
        · rw [List.mem_singleton] at hm
          rw [hm]; exact .inr hn
def atM (x : List ByteArray) (i : Int) : ByteArray × Bool := if okHeap x = true ∧ (0 ≤ i ∧ i ≤ (x.length : Int) - 1) ∧ ¬ (rdOf ByteArray.empty x i).toList = ([] : List UInt8) then (rdOf ByteArray.empty x i, true) else (⟨#[]⟩, false)
theorem implNameAt_eq (x : List ByteArray) (i : Int) (hl : x.length ≤ 1000) (hs : small x) (k : Nat) (hk : 2000 < k) : impl_NameAt.f k x i = some (atM x i) := by
  unfold impl_NameAt.f impl_NameHeap_used.f impl_isIndex.f atM
  rw [implValidHeap_eq 20 x (by omega) hs (by omega) k (by omega), within_eq, w64 (x := (x.length : Int) - 1) (by omega) (by omega)]
  simp only [obind]
  by_cases h : okHeap x = true
  · rw [if_pos h]
    by_cases h1 : 0 ≤ i ∧ i ≤ (x.length : Int) - 1
    · have q0 : 0 ≤ i := h1.1
      have q1 : i < (x.length : Int) := by omega
      simp only [decide_eq_true h1, if_true, if_pos q0, if_pos q1, obind]
      by_cases h2 : (rdOf ByteArray.empty x i).toList = ([] : List UInt8)
      · have e : ((rdOf ByteArray.empty x i).toList != ([] : List UInt8)) = false := by simpa using h2
        rw [e]
        simp [h2]
      · have e : ((rdOf ByteArray.empty x i).toList != ([] : List UInt8)) = true := by simpa using h2
        rw [e]
        simp [h, h1.1, h1.2, h2]
    · simp only [decide_eq_false h1, Bool.false_eq_true, if_false, obind]
      rw [if_neg (fun z => h1 z.2.1)]
  · rw [if_neg h, if_neg (fun z => h z.1)]
def byteOf (n : Nat) : ByteArray := strOfNums (bytesN (n : Int) 1)
theorem byteOf_size (n : Nat) : (byteOf n).size = 1 := by unfold byteOf; rw [size_ofNums, bytesN_length]
theorem bt_byteOf (n : Nat) (h : n ≤ 255) : bt (byteOf n) ((0 : Nat) : Int) = n := by
  unfold byteOf
  rw [bt_ofNums (bytesN_bd _ _) 0 (by rw [bytesN_length]; omega), bytesN_at]
  simp
  omega
def encT : List ByteArray → ByteArray
  | [] => ⟨#[]⟩
  | x :: b => byteOf x.size ++ x ++ encT b
theorem enc_l0 (d : Nat) : ∀ (k : Nat) (a b : List ByteArray) (s : ByteArray), b.length = d → d + 20 < k → a.length + d ≤ 1000 → small b → s.size + 21 * d ≤ 1000000 →
    impl_NameHeap_encode.l0 k s (a ++ b) ((a ++ b).length : Int) a.length = some (s ++ encT b) := by
  induction d with
  | zero =>
    intro k a b s hb hk hl hs hz
    obtain ⟨k, rfl⟩ : ∃ m, k = m + 1 := ⟨k - 1, by omega⟩
    obtain rfl : b = [] := List.eq_nil_of_length_eq_zero hb
    simp only [impl_NameHeap_encode.l0]
    rw [if_neg (by simp)]
    show some s = some (s ++ (⟨#[]⟩ : ByteArray))
    rw [show s ++ (⟨#[]⟩ : ByteArray) = s from ByteArray.append_empty]
  | succ d ih =>
    intro k a b s hb hk hl hs hz
    obtain ⟨k, rfl⟩ : ∃ m, k = m + 1 := ⟨k - 1, by omega⟩
    match b, hb with
    | x :: b, hb =>
    have hx := hs x (List.mem_cons_self ..)
    have h1 : (byteOf x.size ++ x).size = 1 + x.size := by rw [ByteArray.size_append, byteOf_size]
    have hi := ih k (a ++ [x]) b (s ++ (byteOf x.size ++ x)) (by simpa using hb) (by omega) (by simp; omega) (fun y h => hs y (List.mem_cons_of_mem _ h)) (by rw [ByteArray.size_append, h1]; omega)
    rw [List.append_assoc, List.singleton_append, show ((a ++ [x]).length : Int) = (a.length : Int) + 1 by simp] at hi
    simp only [impl_NameHeap_encode.l0]
    unfold impl_putName.f
    rw [if_pos (by simp; omega), if_pos (by omega), if_pos (by simp; omega), rdOf_at, w64 (x := (a.length : Int) + 1) (by omega) (by omega), putBytes_eq _ _ (by omega) (by omega) k (by omega)]
    have e : strOfNums (bytesN (x.size : Int) (1 : Int).toNat) = byteOf x.size := rfl
    rw [e]
    have e1 : (byteOf x.size).size + x.size ≤ 9223372036854775807 := by rw [byteOf_size]; omega
    have e2 : s.size + (byteOf x.size ++ x).size ≤ 9223372036854775807 := by rw [h1]; omega
    simp only [obind, if_pos e1, if_pos e2]
    rw [hi, ByteArray.append_assoc]
    rfl
theorem implEncHeap_eq (l : List ByteArray) (h : okHeap l = true) (hs : small l) (k : Nat) (hk : 2000 < k) : impl_EncodeHeap.f k l = some (byteOf l.length ++ encT l) := by
  obtain ⟨h1, _, _⟩ := (okHeap_iff l).1 h
  unfold impl_EncodeHeap.f impl_NameHeap_encode.f
  rw [implValidHeap_eq 20 l (by omega) hs (by omega) k (by omega), putBytes_eq _ _ (by omega) (by omega) k (by omega)]
  simp only [obind, if_pos h]
  have e : strOfNums (bytesN (l.length : Int) (1 : Int).toNat) = byteOf l.length := rfl
  have h0 := enc_l0 l.length k [] l (byteOf l.length) rfl (by omega) (by simp; omega) hs (by rw [byteOf_size]; omega)
  rw [List.nil_append, show (([] : List ByteArray).length : Int) = 0 from rfl] at h0
  rw [e, h0]
  rfl
def encAt (S : ByteArray) : Nat → List ByteArray → Prop
  | i, [] => i = S.size
  | i, x :: b => i + 1 + x.size ≤ S.size ∧ bt S (i : Int) = x.size ∧ S.extract (i + 1) (i + 1 + x.size) = x ∧ encAt S (i + 1 + x.size) b
theorem encAt_of : ∀ (b : List ByteArray) (p : ByteArray), small b → encAt (p ++ encT b) p.size b
  | [], p, _ => by
    show p.size = (p ++ (⟨#[]⟩ : ByteArray)).size
    rw [show p ++ (⟨#[]⟩ : ByteArray) = p from ByteArray.append_empty]
  | x :: b, p, hs => by
    have hx := hs x (List.mem_cons_self ..)
    have ih := encAt_of b (p ++ byteOf x.size ++ x) (fun y h => hs y (List.mem_cons_of_mem _ h))
    have e1 : (p ++ byteOf x.size).size = p.size + 1 := by rw [ByteArray.size_append, byteOf_size]
    have e2 : (p ++ byteOf x.size ++ x).size = p.size + 1 + x.size := by rw [ByteArray.size_append, e1]
    have e3 : p ++ encT (x :: b) = p ++ byteOf x.size ++ x ++ encT b := by
      show p ++ (byteOf x.size ++ x ++ encT b) = _
      rw [← ByteArray.append_assoc, ← ByteArray.append_assoc]
    rw [e2] at ih
    rw [e3]
    have e4 : (p ++ byteOf x.size ++ x ++ encT b).size = p.size + 1 + x.size + (encT b).size := by rw [ByteArray.size_append, e2]
    refine ⟨by omega, ?_, ?_, ih⟩
    · rw [bt_append_left _ _ _ (by omega), bt_append_left _ _ _ (by omega)]
      have h0 := bt_append_right p (byteOf x.size) 0 (by rw [byteOf_size]; omega)
      rw [bt_byteOf _ (by omega), Nat.add_zero] at h0
      exact h0
    · have hz : ((p ++ byteOf x.size ++ x ++ encT b).extract (p.size + 1) (p.size + 1 + x.size)).size = x.size := by rw [size_extract _ _ _ (by omega)]; omega
      refine ba_ext hz fun i hi => ?_
      rw [hz] at hi
      rw [bt_extract _ _ _ _ (by omega) (by omega) (by omega)]
      rw [show (((p.size + 1 : Nat) : Int) + (i : Int)) = ((p.size + 1 + i : Nat) : Int) by omega, bt_append_left _ _ _ (by omega)]
      have h0 := bt_append_right (p ++ byteOf x.size) x i hi
      rw [e1] at h0
      exact h0
theorem dec_l0 (S : ByteArray) (hS : S.size ≤ 100000) (d : Nat) : ∀ (k i : Nat) (acc b : List ByteArray), b.length = d → d + 2000 < k → acc.length + d ≤ 1000 → small acc → small b → okHeap (acc ++ b) = true → encAt S i b →
    impl_DecodeHeap.l0 k d (S.extract i S.size) false acc = some (acc ++ b, true) := by
  induction d with
  | zero =>
    intro k i acc b hb hk hl hs hs2 ho he
    obtain ⟨k, rfl⟩ : ∃ m, k = m + 1 := ⟨k - 1, by omega⟩
    obtain rfl : b = [] := List.eq_nil_of_length_eq_zero hb
    rw [List.append_nil] at ho
    have he' : i = S.size := he
    have e0 : (S.extract i S.size).toList = ([] : List UInt8) := (toList_nil _).2 (by rw [extract_all_size]; omega)
    simp only [impl_DecodeHeap.l0]
    rw [if_neg (by omega), if_neg (by simp), if_pos e0, implValidHeap_eq 20 acc (by omega) hs (by omega) k (by omega)]
    simp only [obind]
    rw [if_pos ho, List.append_nil]
  | succ d ih =>
    intro k i acc b hb hk hl hs hs2 ho he
    obtain ⟨k, rfl⟩ : ∃ m, k = m + 1 := ⟨k - 1, by omega⟩
    match b, hb with
    | x :: b, hb =>
    obtain ⟨q1, q2, q3, q4⟩ := he
    have hx := hs2 x (List.mem_cons_self ..)
    have e : (bt S (i : Int)).toNat = x.size := by omega
    have hn := name_ok S i false (by omega) (by omega) (by omega) k (by omega)
    rw [e, q3] at hn
    simp only [impl_DecodeHeap.l0]
    rw [if_pos (by omega), if_neg (by simp), hn]
    simp only [obind]
    rw [if_pos (by omega), w64 (x := ((d + 1 : Nat) : Int) - 1) (by omega) (by omega), show ((d + 1 : Nat) : Int) - 1 = d by omega]
    have hi := ih k (i + 1 + x.size) (acc ++ [x]) b (by simpa using hb) (by omega) (by simp; omega) (small_app hs (small_one hx)) (fun y h => hs2 y (List.mem_cons_of_mem _ h)) (by rw [List.append_assoc]; exact ho) q4
    rw [hi, List.append_assoc]
    rfl
theorem encT_size : ∀ (l : List ByteArray), small l → (encT l).size ≤ 21 * l.length
  | [], _ => by simp [encT, ByteArray.size]
  | x :: b, hs => by
    have hx := hs x (List.mem_cons_self ..)
    have ih := encT_size b (fun y h => hs y (List.mem_cons_of_mem _ h))
    show (byteOf x.size ++ x ++ encT b).size ≤ _
    rw [ByteArray.size_append, ByteArray.size_append, byteOf_size, List.length_cons]
    omega
theorem implDecHeap_eq (l : List ByteArray) (h : okHeap l = true) (hs : small l) (k : Nat) (hk : 4000 < k) : impl_DecodeHeap.f k (byteOf l.length ++ encT l) = some (l, true) := by
  obtain ⟨h1, _, _⟩ := (okHeap_iff l).1 h
  have hz := encT_size l hs
  have hS : (byteOf l.length ++ encT l).size = 1 + (encT l).size := by rw [ByteArray.size_append, byteOf_size]
  unfold impl_DecodeHeap.f
  obtain ⟨v, i, b, hi, v0, v1, _, dd, y, nn⟩ := dec_byte (byteOf l.length ++ encT l) 0 false (by omega) (by omega)
  have d' := dd k (by omega)
  rw [extract_whole] at d'
  obtain ⟨rfl, rfl, rfl⟩ := y (by omega)
  rw [d']
  simp only [obind]
  have hb : bt (byteOf l.length ++ encT l) ((0 : Nat) : Int) = (l.length : Int) := by
    rw [bt_append_left _ _ 0 (by rw [byteOf_size]; omega), bt_byteOf _ (by omega)]
  rw [hb]
  have he := encAt_of l (byteOf l.length) hs
  rw [byteOf_size] at he
  have h0 := dec_l0 _ (by omega) l.length k 1 [] l rfl (by omega) (by simp; omega) (fun s hs => by cases hs) hs h he
  rw [List.nil_append] at h0
  exact h0
theorem texts_l0 (l : List ByteArray) (hl : l.length ≤ 1000) (d : Nat) : ∀ (k i : Nat), i + d = l.length → d < k → spec_l02Texts.l0 k l l i = some true := by
  induction d with
  | zero =>
    intro k i hi hk
    obtain ⟨k, rfl⟩ : ∃ m, k = m + 1 := ⟨k - 1, by omega⟩
    simp only [spec_l02Texts.l0]
    rw [if_neg (by omega)]
  | succ d ih =>
    intro k i hi hk
    obtain ⟨k, rfl⟩ : ∃ m, k = m + 1 := ⟨k - 1, by omega⟩
    simp only [spec_l02Texts.l0]
    rw [if_pos (by omega), if_pos (by omega), if_pos (by omega), w64 (x := (i : Int) + 1) (by omega) (by omega), if_pos trivial]
    exact ih k (i + 1) (by omega) (by omega)
theorem sameHeap_self (l : List ByteArray) (hl : l.length ≤ 1000) (k : Nat) (hk : 1001 < k) : spec_SameHeap.f k l l = some true := by
  unfold spec_SameHeap.f spec_l02Texts.f
  rw [if_pos rfl, show spec_l02Texts.l0 k l l 0 = some true from texts_l0 l hl l.length k 0 (by omega) (by omega)]
  rfl
theorem at_same (l x : List ByteArray) (i : Nat) (hl : okHeap l = true) (hx : okHeap x = true) (hi : i < l.length) (hlx : l.length ≤ x.length) (hr : rdOf ByteArray.empty x (i : Int) = rdOf ByteArray.empty l (i : Int)) : atM x i = atM l i := by
  unfold atM
  rw [hr]
  have r1 : 0 ≤ (i : Int) ∧ (i : Int) ≤ (l.length : Int) - 1 := by omega
  have r2 : 0 ≤ (i : Int) ∧ (i : Int) ≤ (x.length : Int) - 1 := by omega
  by_cases e : (rdOf ByteArray.empty l (i : Int)).toList = ([] : List UInt8)
  · rw [if_neg (fun z => z.2.2 e), if_neg (fun z => z.2.2 e)]
  · rw [if_pos ⟨hx, r2, e⟩, if_pos ⟨hl, r1, e⟩]
def dropM (x : List ByteArray) (n : Nat) : List ByteArray := (x.set n ⟨#[]⟩).take (trim (x.set n ⟨#[]⟩) x.length)
theorem implDropName_eq (x : List ByteArray) (n : Nat) (h : okHeap x = true) (hs : small x) (hn : n < x.length) (hne : ¬ (rdOf ByteArray.empty x (n : Int)).toList = ([] : List UInt8)) (hl : x.length ≤ 1000) (k : Nat) (hk : 2000 < k) :
    impl_DropName.f k x n = some (dropM x n, 0) := by
  unfold impl_DropName.f impl_NameHeap_used.f impl_isIndex.f impl_NameHeap_drop.f slices_Clone_string_string.f dropM
  rw [implValidHeap_eq 20 x (by omega) hs (by omega) k (by omega), within_eq, w64 (x := (x.length : Int) - 1) (by omega) (by omega)]
  have h1 : 0 ≤ (n : Int) ∧ (n : Int) ≤ (x.length : Int) - 1 := by omega
  have q0 : (0 : Int) ≤ ((n : Nat) : Int) := by omega
  have q1 : ((n : Nat) : Int) < (x.length : Int) := by omega
  have q2 : x.length < 8796093022208 := by omega
  have h4 : ((rdOf ByteArray.empty x n).toList != ([] : List UInt8)) = true := by simpa using hne
  simp only [obind, if_pos h, decide_eq_true h1, if_true, if_pos q0, if_pos q1, h4, List.nil_append, List.length_nil, Nat.zero_add, if_pos q2, Int.toNat_natCast]
  have hX : (x.set n (⟨#[]⟩ : ByteArray)).length = x.length := by simp
  have hd := implDrop_l0 (x.set n (⟨#[]⟩ : ByteArray)) (by omega) x.length k (by omega) (by omega)
  rw [List.take_of_length_le (by omega)] at hd
  rw [hd]
  rfl
theorem drop_gone (x : List ByteArray) (n : Nat) (hn : n < x.length) : (atM (dropM x n) n).2 = false := by
  unfold atM
  rw [if_neg]
  rintro ⟨_, ⟨_, h1⟩, h2⟩
  apply h2
  have hlen : n < (dropM x n).length := by omega
  unfold dropM at hlen ⊢
  rw [List.length_take] at hlen
  rw [rd_take_lt _ _ _ (by omega), rd_set_eq x n _ hn]
  exact (toList_nil _).2 rfl
theorem small_drop (x : List ByteArray) (n : Nat) (hs : small x) : small (dropM x n) := fun s hm => by
  unfold dropM at hm
  rcases List.mem_or_eq_of_mem_set (List.mem_of_mem_take hm) with h | rfl
  · exact hs s h
  · exact Nat.zero_le _
theorem dropM_length (x : List ByteArray) (n : Nat) : (dropM x n).length ≤ x.length := by
  unfold dropM
  rw [List.length_take, List.length_set]
  omega
theorem slot_bd (x : List ByteArray) (nm : ByteArray) (n : Nat) (hn : n < x.length) (hr : rdOf ByteArray.empty x (n : Int) = nm) : 0 ≤ fst nm x 0 ∧ fst nm x 0 ≤ n := by
  rcases fst_spec nm x 0 with ⟨_, h⟩ | ⟨m, h1, h2, h3, h4⟩
  · exfalso
    refine h _ (List.getElem_mem hn) ?_
    rw [rd_nat] at hr
    rw [← hr]
    simp [List.getD, hn]
  · refine ⟨by omega, ?_⟩
    by_cases c : m ≤ n
    · omega
    · exact absurd (by rw [hr]) (h4 n (by omega))
theorem end_ok (l x : List ByteArray) (nm : ByteArray) (n : Nat) (hx : okHeap x = true) (hs : small x) (hn : n < x.length) (hr : rdOf ByteArray.empty x (n : Int) = nm) (hnm : isNm nm = true) (k : Nat) (hk : 5000 < k) :
    laws_FnHeap.l0 k nm n l.length l x = some true := by
  obtain ⟨k, rfl⟩ : ∃ m, k = m + 2 := ⟨k - 2, by omega⟩
  obtain ⟨h1, _, _⟩ := (okHeap_iff x).1 hx
  obtain ⟨p1, _⟩ := isNm_pos hnm
  have hne : ¬ nm.toList = ([] : List UInt8) := fun e => by have := (toList_nil nm).1 e; omega
  have hb := slot_bd x nm n hn hr
  have hz : ¬ ((l.length : Int) < (l.length : Int)) := by omega
  have hsl : impl_SlotOf.f k x nm = some (fst nm x 0) := by
    unfold impl_SlotOf.f
    rw [implValidHeap_eq 20 x (by omega) hs (by omega) k (by omega)]
    simp only [obind, if_pos hx, if_neg hne]
    rw [implIndex_eq _ x (by omega) k (by omega)]
    rfl
  have hg := drop_gone x n hn
  have hdl := dropM_length x n
  have j2 : laws_FnHeap.j2 (k + 1) nm n (!true) x (dropM x n) = some true := by
    simp only [laws_FnHeap.j2, Bool.not_true, Bool.false_eq_true, if_false]
    rw [implNameAt_eq (dropM x n) n (by omega) (small_drop x n hs) k (by omega)]
    simp only [obind, hg, Bool.false_eq_true, if_false, hsl, if_pos hb.1]
    rw [decide_eq_true hb.2]
  simp only [laws_FnHeap.l0, if_neg hz]
  rw [implDropName_eq x n hx hs hn (by rw [hr]; exact hne) (by omega) (k + 1) (by omega), implEncHeap_eq x hx hs (k + 1) (by omega)]
  simp only [obind]
  rw [implDecHeap_eq x hx hs (k + 1) (by omega)]
  simp only [obind, if_true]
  rw [sameHeap_self x (by omega) (k + 1) (by omega)]
  simp only [obind]
  exact j2
theorem loop_ok (l x : List ByteArray) (nm : ByteArray) (n : Nat) (hlo : okHeap l = true) (hx : okHeap x = true) (hsl : small l) (hs : small x) (hn : n < x.length) (hr : rdOf ByteArray.empty x (n : Int) = nm) (hnm : isNm nm = true) (hl : l.length ≤ x.length)
    (ho : ∀ i : Nat, i < l.length → i ≠ n → rdOf ByteArray.empty x (i : Int) = rdOf ByteArray.empty l (i : Int)) (d : Nat) : ∀ (k i : Nat), i + d = l.length → d + 6000 < k → laws_FnHeap.l0 k nm n i l x = some true := by
  obtain ⟨h1, _, _⟩ := (okHeap_iff x).1 hx
  induction d with
  | zero =>
    intro k i hi hk
    obtain rfl : i = l.length := by omega
    exact end_ok l x nm n hx hs hn hr hnm k (by omega)
  | succ d ih =>
    intro k i hi hk
    obtain ⟨k, rfl⟩ : ∃ m, k = m + 1 := ⟨k - 1, by omega⟩
    have hi' := ih k (i + 1) (by omega) (by omega)
    rw [show ((i + 1 : Nat) : Int) = (i : Int) + 1 by omega] at hi'
    simp only [laws_FnHeap.l0]
    rw [if_pos (by omega), implNameAt_eq l i (by omega) hsl k (by omega), implNameAt_eq x i (by omega) hs k (by omega), w64 (x := (i : Int) + 1) (by omega) (by omega), hi']
    simp only [obind]
    by_cases c : (i : Int) = n
    · rw [if_pos c]
    · rw [if_neg c, at_same l x i hlo hx (by omega) hl (ho i (by omega) (by omega))]
      simp
theorem FnHeap : laws_FnHeap.Pure := by
  intro l h1 _ hl
  have hl' : ∀ x ∈ l, 0 ≤ x ∧ x ≤ 255 := fun x hx => bdu8 (hl x hx)
  obtain ⟨K, hK⟩ : ∃ K, 10000 ≤ K := ⟨_, Nat.le_refl _⟩
  refine ⟨K + 2, ?_⟩
  unfold laws_FnHeap.f laws_b2Long.f
  simp only [obind]
  by_cases hb : decide ((l.length : Int) > 1048576) = true
  · rw [if_pos hb]
  · rw [if_neg hb]
    have hdraw : ∃ h nm, spec_DrawPutName.f (K + 2) l = some (h, nm) ∧ h.length ≤ 60 ∧ small h ∧ nm.size ≤ 20 := by
      unfold spec_DrawPutName.f spec_l00From.f
      simp only [obind]
      obtain ⟨h, p1, q1, e1, b1, b2, b3, b4⟩ := drawHeap_some l hl' 12 0 (K + 2) (by omega)
      rw [e1]
      simp only [obind]
      obtain ⟨b, p2, q2, e2, a1, a2⟩ := one_some l hl' p1 q1 9 (by omega) (by omega)
      rw [e2]
      simp only [obind]
      by_cases c : b = true
      · rw [if_pos c]
        obtain ⟨t, p3, q3, e3, ht, _, _⟩ := text_some l hl' p2 q2 [(⟨#[]⟩ : ByteArray), (⟨#[49]⟩ : ByteArray), (⟨#[97, 32, 98]⟩ : ByteArray), (⟨#[65, 66, 67, 68, 69, 70, 71, 72, 73, 74, 75, 76, 77]⟩ : ByteArray), (⟨#[65, 66, 67, 68, 69, 70, 71, 72, 73, 74, 75, 76]⟩ : ByteArray)] (by simp) (by unfold small; decide) (by omega) (by omega)
        rw [e3]
        exact ⟨h, t, rfl, b1, b2, ht⟩
      · rw [if_neg c]
        obtain ⟨t, p3, q3, e3, ht, _, _⟩ := drawName_some l hl' p2 q2 (by omega) (by omega)
        rw [e3]
        exact ⟨h, t, rfl, b1, b2, ht⟩
    obtain ⟨h, nm, e, b1, b2, b3⟩ := hdraw
    rw [e]
    simp only [obind]
    rw [implPutName_eq h nm (by omega) b2 b3 (K + 2) (by omega), specPutName_eq h nm (by omega) b2 b3 (K + 2) (by omega)]
    simp only [obind]
    by_cases c : (putAll h nm).2.2 = 0
    · rw [if_pos c]
      have hok : okHeap h = true ∧ isNm nm = true := by
        by_cases z : okHeap h = true ∧ isNm nm = true
        · exact z
        · unfold putAll at c
          rw [if_neg z] at c
          exact absurd c (by decide)
      have ep : putAll h nm = putM h nm := by unfold putAll; rw [if_pos hok]
      rw [ep] at c ⊢
      obtain ⟨n, a1, a2, a3, a4, a5, a6, a7⟩ := put_ok h nm hok.1 hok.2 b2 c
      obtain ⟨z1, _, _⟩ := (okHeap_iff (putM h nm).1).1 a4
      rw [a1]
      obtain ⟨p1, _⟩ := isNm_pos hok.2
      have hne : ¬ nm.toList = ([] : List UInt8) := fun e => by have := (toList_nil nm).1 e; omega
      have hat : atM (putM h nm).1 n = (nm, true) := by
        unfold atM
        rw [if_pos ⟨a4, by omega, by rw [a3]; exact hne⟩, a3]
      rw [implNameAt_eq _ n (by omega) a7 (K + 2) (by omega), hat]
      simp only [obind, if_true]
      unfold spec_ValidHeap.f
      rw [specHeapOk_eq _ (by omega) (fun s hs => by have := a7 s hs; omega) (K + 2) (by omega), a4]
      simp only [obind, laws_FnHeap.j0, Bool.not_true, Bool.false_eq_true, if_false]
      exact loop_ok h (putM h nm).1 nm n hok.1 a4 b2 a7 a2 a3 hok.2 a5 a6 h.length (K + 1) 0 (by omega) (by omega)
    · rw [if_neg c]
      simp

end Go.Proofs.Ytejjlklecmdpiaa.Pure
