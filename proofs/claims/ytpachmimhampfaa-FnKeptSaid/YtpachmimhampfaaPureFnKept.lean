/- A cut keeps the writes of its mask, whatever their number; the standard cuts are valid. No condition. -/
import Derived.Test.YtpachmimhampfaaKit
import Derived.Test.YtpachmimhampfaaMFnKeptx3
namespace Go.Proofs.Ytpachmimhampfaa.Pure
open Go.RowKit Go.Proofs.Ytpachmimhampfaa.PFnKept Go.Proofs.YtpachmimhampfaaW.PrintWords Go.Proofs.YtpachmimhampfaaW.PrintLast Go.Proofs.Ytpachmimhampfaa.Kit

/-! ### draw -/
/-- A reader of draws: a list of bytes, a place that is not behind 2^40, a seed. -/
theorem next_some (l : List Int) (hl : ∀ x ∈ l, 0 ≤ x ∧ x ≤ 255) (p q : Int) (h0 : 0 ≤ p) (h1 : p ≤ 4611686018427387904) :
    ∃ r q', spec_l00Src_next.f l p q = some (r, p + 1, q') ∧ 0 ≤ r ∧ r ≤ 255 := by
  unfold spec_l00Src_next.f
  rw [w64 (x := p + 1) (by omega) (by omega)]
  have hand : ∀ x : Int, 0 ≤ wrap64 (Go.bits .and .u64 (IntKind.u64.wrap x / 1099511627776) 255) ∧ wrap64 (Go.bits .and .u64 (IntKind.u64.wrap x / 1099511627776) 255) ≤ 255 := fun x => by
    have := and255 (IntKind.u64.wrap x / 1099511627776)
    rw [w64] <;> omega
  have hrd : 0 ≤ rd l p ∧ rd l p ≤ 255 := rd_all (P := fun x => 0 ≤ x ∧ x ≤ 255) hl (by omega) p
  by_cases h2 : p < l.length
  · rw [if_pos h2, if_pos h0]
    by_cases h3 : p + 1 ≤ l.length
    · rw [if_pos h3]
      exact ⟨_, _, rfl, by rw [w64] <;> omega, by rw [w64] <;> omega⟩
    · omega
  · rw [if_neg h2]
    by_cases h3 : p + 1 ≤ l.length
    · rw [if_pos h3]
      exact ⟨_, _, rfl, by omega, by omega⟩
    · rw [if_neg h3]
      exact ⟨_, _, rfl, (hand _).1, (hand _).2⟩
theorem tmod_bd {x n : Int} (hx : 0 ≤ x) (hn : 0 < n) : 0 ≤ Int.tmod x n ∧ Int.tmod x n < n :=
  ⟨Int.tmod_nonneg _ hx, Int.tmod_lt_of_pos _ hn⟩
theorem pick_some (l : List Int) (hl : ∀ x ∈ l, 0 ≤ x ∧ x ≤ 255) (p q n : Int) (h0 : 0 ≤ p) (h1 : p ≤ 4611686018427387903) :
    ∃ r p' q', spec_l00Src_pick.f l p q n = some (r, p', q') ∧ 0 ≤ r ∧ (r = 0 ∨ r < n) ∧ p ≤ p' ∧ p' ≤ p + 2 := by
  unfold spec_l00Src_pick.f
  by_cases hn : n ≤ 1
  · rw [if_pos hn]
    exact ⟨_, _, _, rfl, by omega, by omega, by omega, by omega⟩
  · rw [if_neg hn]
    obtain ⟨a, q1, ha, a0, a1⟩ := next_some l hl p q h0 (by omega)
    rw [ha]
    simp only [obind]
    by_cases h2 : n > 200
    · rw [if_pos h2]
      obtain ⟨b, q2, hb, b0, b1⟩ := next_some l hl (p + 1) q1 (by omega) (by omega)
      rw [hb]
      simp only [obind]
      rw [if_neg (by omega), w64 (x := a * 256) (by omega) (by omega), w64 (x := a * 256 + b) (by omega) (by omega)]
      have := tmod_bd (x := a * 256 + b) (n := n) (by omega) (by omega)
      exact ⟨_, _, _, rfl, by omega, by omega, by omega, by omega⟩
    · rw [if_neg h2, if_neg (by omega)]
      have := tmod_bd (x := a) (n := n) (by omega) (by omega)
      exact ⟨_, _, _, rfl, by omega, by omega, by omega, by omega⟩
theorem one_some (l : List Int) (hl : ∀ x ∈ l, 0 ≤ x ∧ x ≤ 255) (p q n : Int) (h0 : 0 ≤ p) (h1 : p ≤ 4611686018427387903) :
    ∃ r p' q', spec_l00Src_one.f l p q n = some (r, p', q') ∧ p ≤ p' ∧ p' ≤ p + 2 := by
  unfold spec_l00Src_one.f
  obtain ⟨a, p1, q1, ha, a0, a1, a2, a3⟩ := pick_some l hl p q n h0 h1
  rw [ha]
  simp only [obind]
  exact ⟨_, _, _, rfl, by omega, by omega⟩
theorem among_some (l : List Int) (hl : ∀ x ∈ l, 0 ≤ x ∧ x ≤ 255) (p q : Int) (xs : List Int) (hx : 0 < xs.length) (h0 : 0 ≤ p) (h1 : p ≤ 4611686018427387903) :
    ∃ r p' q', spec_l00Src_among.f l p q xs = some (r, p', q') ∧ r ∈ xs ∧ p ≤ p' ∧ p' ≤ p + 2 := by
  unfold spec_l00Src_among.f
  obtain ⟨a, p1, q1, ha, a0, a1, a2, a3⟩ := pick_some l hl p q xs.length h0 h1
  rw [ha]
  simp only [obind]
  rw [if_pos a0, if_pos (by omega)]
  exact ⟨_, _, _, rfl, rd_mem (by omega) (by omega), by omega, by omega⟩

/-! ### within -/
theorem within_eq (a b c : Int) : impl_within.f a b c = some (decide (b ≤ a ∧ a ≤ c)) := by
  unfold impl_within.f
  by_cases h : b ≤ a
  · rw [if_pos h]; simp [h]
  · rw [if_neg h]; simp [h]

/-! ### l00In -/
theorem l00In_eq (a b c : Int) : spec_l00In.f a b c = some (decide (b ≤ a ∧ a ≤ c)) := by
  unfold spec_l00In.f
  by_cases h : b ≤ a
  · rw [if_pos h]; simp [h]
  · rw [if_neg h]; simp [h]

def bitAt (m : Int) (i : Int) : Bool := (Go.bits .and .i64 (shr .i64 m (Int.tmod i 30)) 1) == 1
theorem kept_l0 (m t b : Int) (n : Nat) (hn : n ≤ 600) (d : Nat) : ∀ (k i : Nat) (acc : List Bool), i + d = n → d < k → acc.length = i →
    impl_Cut_kept.l0 k acc n i m t b = some (acc ++ (List.range' i d).map (fun j : Nat => bitAt m j)) := by
  induction d with
  | zero =>
    intro k i acc hi hk ha
    obtain ⟨k, rfl⟩ : ∃ m, k = m + 1 := ⟨k - 1, by omega⟩
    simp only [impl_Cut_kept.l0]
    rw [if_neg (by omega)]
    simp
  | succ d ih =>
    intro k i acc hi hk ha
    obtain ⟨k, rfl⟩ : ∃ m, k = m + 1 := ⟨k - 1, by omega⟩
    simp only [impl_Cut_kept.l0]
    have ht := Int.tmod_nonneg 30 (show (0 : Int) ≤ (i : Int) by omega)
    rw [if_pos (by omega), if_pos ht, if_pos (by omega), w64 (x := (i : Int) + 1) (by omega) (by omega)]
    have := ih k (i + 1) (acc ++ [bitAt m i]) (by omega) (by omega) (by simp [ha])
    rw [List.append_assoc] at this
    rw [List.range'_succ, List.map_cons]
    exact this
def keptL (m : Int) (n : Nat) : List Bool := (List.range' 0 n).map (fun j : Nat => bitAt m j)
theorem keptL_length (m : Int) (n : Nat) : (keptL m n).length = n := by simp [keptL]
theorem keptL_at (m : Int) (n : Nat) (i : Int) (h0 : 0 ≤ i) (h1 : i < n) : rdOf false (keptL m n) i = bitAt m i := by
  obtain ⟨j, rfl⟩ := Int.eq_ofNat_of_zero_le h0
  have hj : j < n := by omega
  unfold rdOf keptL
  simp [hj]
theorem bitAt_back (m i : Int) (h : 30 ≤ i) : bitAt m i = bitAt m (i - 30) := by
  unfold bitAt
  rw [Int.tmod_eq_emod_of_nonneg (by omega), Int.tmod_eq_emod_of_nonneg (by omega)]
  rw [show (i - 30) % 30 = i % 30 by omega]
theorem std_true : ∀ n ∈ ([0, 1, 3, 31, 40] : List Int), ((impl_StandardCuts.f 60 n).bind fun t => laws_FnKept.l1 60 t 0) = some true := by
  intro n hn
  simp only [List.mem_cons, List.not_mem_nil, or_false] at hn
  obtain rfl | rfl | rfl | rfl | rfl := hn <;> decide +kernel
theorem std_ev (n : Int) (hn : n ∈ ([0, 1, 3, 31, 40] : List Int)) (k : Nat) (hk : 60 ≤ k) : ((impl_StandardCuts.f k n).bind fun t => laws_FnKept.l1 k t 0) = some true :=
  at_rounds (g := fun k => (impl_StandardCuts.f k n).bind fun t => laws_FnKept.l1 k t 0) (fun k => LeO.bind (impl_StandardCuts.mono _ _) (fun _ => (laws_FnKept.mono_l k).2.2 _ _)) hk (std_true n hn)
theorem laws_l0 (m : Int) (n : Nat) (hn : (n : Int) ∈ ([0, 1, 3, 31, 40] : List Int)) (hn6 : n ≤ 600) (d : Nat) : ∀ (k : Nat) (i : Int), 30 ≤ i → (n : Int) ≤ i + d → i + d ≤ 1000 → 61 + d ≤ k → laws_FnKept.l0 k n (keptL m n) i = some true := by
  induction d with
  | zero =>
    intro k i h30 hi hi2 hk
    obtain ⟨k, rfl⟩ : ∃ m, k = m + 1 := ⟨k - 1, by omega⟩
    simp only [laws_FnKept.l0]
    rw [if_neg (by omega)]
    exact std_ev n hn k (by omega)
  | succ d ih =>
    intro k i h30 hi hi2 hk
    obtain ⟨k, rfl⟩ : ∃ m, k = m + 1 := ⟨k - 1, by omega⟩
    simp only [laws_FnKept.l0]
    by_cases hin : i < n
    · rw [if_pos hin, if_pos (by omega), keptL_length, if_pos hin, w64 (x := i - 30) (by omega) (by omega), if_pos (by omega), if_pos (by omega)]
      rw [keptL_at m n i (by omega) hin, keptL_at m n (i - 30) (by omega) (by omega), ← bitAt_back m i h30]
      rw [if_neg (by simp), w64 (x := i + 1) (by omega) (by omega)]
      exact ih k (i + 1) (by omega) (by omega) (by omega) (by omega)
    · rw [if_neg hin]
      exact std_ev n hn k (by omega)
theorem drawCut_some (l : List Int) (hl : ∀ x ∈ l, 0 ≤ x ∧ x ≤ 255) (p q : Int) (h0 : 0 ≤ p) (h1 : p ≤ 4611686018427387000) (k : Nat) (hk : 2 ≤ k) :
    ∃ a b c p' q', spec_l30DrawCut.f k l p q = some (a, b, c, p', q') ∧ p ≤ p' ∧ p' ≤ p + 18 := by
  obtain ⟨k, rfl⟩ : ∃ m, k = m + 2 := ⟨k - 2, by omega⟩
  have j1 : ∀ (p q m t b : Int), 0 ≤ p → p ≤ 4611686018427387300 → ∃ a' b' c' p' q', spec_l30DrawCut.j1 (k + 1) l p q m t b = some (a', b', c', p', q') ∧ p ≤ p' ∧ p' ≤ p + 4 := by
    intro p q m t b h0 h1
    simp only [spec_l30DrawCut.j1]
    obtain ⟨r, p1, q1, e, g0, g1⟩ := one_some l hl p q 12 h0 (by omega)
    rw [e]
    simp only [obind]
    by_cases hr : r = true
    · rw [if_pos hr]
      obtain ⟨r2, p2, q2, e2, _, g2, g3⟩ := among_some l hl p1 q1 [-1, 65] (by decide) (by omega) (by omega)
      rw [e2]
      simp only [obind]
      exact ⟨_, _, _, _, _, rfl, by omega, by omega⟩
    · rw [if_neg hr]
      exact ⟨_, _, _, _, _, rfl, by omega, by omega⟩
  have j0 : ∀ (p q m t b : Int), 0 ≤ p → p ≤ 4611686018427387200 → ∃ a' b' c' p' q', spec_l30DrawCut.j0 (k + 2) l p q m t b = some (a', b', c', p', q') ∧ p ≤ p' ∧ p' ≤ p + 8 := by
    intro p q m t b h0 h1
    simp only [spec_l30DrawCut.j0]
    obtain ⟨r, p1, q1, e, g0, g1⟩ := one_some l hl p q 12 h0 (by omega)
    rw [e]
    simp only [obind]
    by_cases hr : r = true
    · rw [if_pos hr]
      obtain ⟨r2, p2, q2, e2, _, g2, g3⟩ := among_some l hl p1 q1 [-2, 600, 599] (by decide) (by omega) (by omega)
      rw [e2]
      simp only [obind]
      obtain ⟨a', b', c', p', q', e3, g4, g5⟩ := j1 p2 q2 m r2 b (by omega) (by omega)
      exact ⟨_, _, _, _, _, e3, by omega, by omega⟩
    · rw [if_neg hr]
      obtain ⟨a', b', c', p', q', e3, g4, g5⟩ := j1 p1 q1 m t b (by omega) (by omega)
      exact ⟨_, _, _, _, _, e3, by omega, by omega⟩
  unfold spec_l30DrawCut.f
  obtain ⟨r1, p1, q1, e1, _, g1, g2⟩ := among_some l hl p q [0, 1073741823, 1, 2, 5, 357913941, 536870912] (by decide) h0 (by omega)
  obtain ⟨r2, p2, q2, e2, _, _, g3, g4⟩ := pick_some l hl p1 q1 9 (by omega) (by omega)
  obtain ⟨r3, p3, q3, e3, _, _, g5, g6⟩ := pick_some l hl p2 q2 65 (by omega) (by omega)
  obtain ⟨r4, p4, q4, e4, g7, g8⟩ := one_some l hl p3 q3 12 (by omega) (by omega)
  simp only [e1, e2, e3, e4, obind]
  by_cases hr : r4 = true
  · rw [if_pos hr]
    obtain ⟨r5, p5, q5, e5, _, g9, g10⟩ := among_some l hl p4 q4 [-1, 1073741824] (by decide) (by omega) (by omega)
    simp only [e5, obind]
    obtain ⟨a', b', c', p', q', e6, g11, g12⟩ := j0 p5 q5 r5 (wrap64 (r2 - 1)) r3 (by omega) (by omega)
    exact ⟨_, _, _, _, _, e6, by omega, by omega⟩
  · rw [if_neg hr]
    obtain ⟨a', b', c', p', q', e6, g11, g12⟩ := j0 p4 q4 r1 (wrap64 (r2 - 1)) r3 (by omega) (by omega)
    exact ⟨_, _, _, _, _, e6, by omega, by omega⟩
theorem specValid_eq (a b c : Int) : spec_ValidCut.f a b c = some (decide ((0 ≤ a ∧ a ≤ 1073741823) ∧ (-1 ≤ b ∧ b ≤ 599) ∧ (0 ≤ c ∧ c ≤ 64))) := by
  unfold spec_ValidCut.f
  simp only [l00In_eq, obind, decide_eq_true_eq, ite_and]
theorem implValid_eq (a b c : Int) : impl_ValidCut.f a b c = some (decide ((0 ≤ a ∧ a ≤ 1073741823) ∧ (-1 ≤ b ∧ b ≤ 599) ∧ (0 ≤ c ∧ c ≤ 64))) := by
  unfold impl_ValidCut.f
  simp only [within_eq, obind, decide_eq_true_eq, ite_and]
theorem FnKept : laws_FnKept.Pure := by
  intro l hlen _ hl
  have hl' : ∀ x ∈ l, 0 ≤ x ∧ x ≤ 255 := fun x hx => bdu8 (hl x hx)
  refine ⟨2000, ?_⟩
  unfold laws_FnKept.f laws_b10Long.f
  simp only [obind]
  split
  · rfl
  · unfold spec_DrawKeptBy.f spec_l00From.f
    obtain ⟨a, b, c, p, q, e, g0, g1⟩ := drawCut_some l hl' 0 0 (by omega) (by omega) 2000 (by omega)
    obtain ⟨n, p1, q1, e1, hn, _, _⟩ := among_some l hl' p q [0, 1, 3, 31, 40, 601, -1] (by decide) (by omega) (by omega)
    simp only [obind, e, e1]
    unfold impl_KeptBy.f
    simp only [implValid_eq, specValid_eq, within_eq, obind, decide_eq_true_eq]
    have j0e : ∀ (x4 : Int) (x5 : List Bool) (x29 : Bool), laws_FnKept.j0 2000 x4 x5 x29 = if x29 = true then (some ((x5.length : Int) == 0)) else (if (x5.length : Int) = x4 then (laws_FnKept.l0 1999 x4 x5 30) else (some false)) := fun _ _ _ => rfl
    by_cases hv : (0 ≤ a ∧ a ≤ 1073741823) ∧ (-1 ≤ b ∧ b ≤ 599) ∧ (0 ≤ c ∧ c ≤ 64)
    · simp only [if_pos hv]
      by_cases hw : 0 ≤ n ∧ n ≤ 600
      · rw [if_pos hw]
        have hn5 : n ∈ ([0, 1, 3, 31, 40] : List Int) := by
          simp only [List.mem_cons, List.not_mem_nil, or_false] at hn ⊢
          omega
        obtain ⟨n, rfl⟩ := Int.eq_ofNat_of_zero_le hw.1
        have hk : impl_Cut_kept.f 2000 a b c n = some (keptL a n) := by
          unfold impl_Cut_kept.f
          exact kept_l0 a b c n (by omega) n 2000 0 [] (by omega) (by omega) rfl
        simp only [hk, obind]
        rw [if_neg (by omega), j0e, if_neg (by simp; omega), keptL_length, if_pos rfl]
        exact laws_l0 a n hn5 (by omega) 650 1999 30 (by omega) (by omega) (by omega) (by omega)
      · rw [if_neg hw]
        simp only [obind]
        by_cases h0 : n < 0
        · rw [if_pos h0, j0e, if_pos rfl]; rfl
        · rw [if_neg h0, j0e, if_pos (by simp; omega)]; rfl
    · simp only [if_neg hv, obind]
      rw [j0e, if_pos rfl]
      rfl

end Go.Proofs.Ytpachmimhampfaa.Pure
