/- What 'FnHex' comes to, in plain words over numbers, texts and lists: each function that it reaches answers what is told; put together, the law answers true. No condition but the sizes that come in. -/
import Derived.Test.YtlcbbiiohhplfaaEqFnHex
namespace Go.Ve.X
open Go.Ve
set_option linter.all false
set_option maxRecDepth 100000

/-! bytesL -/
theorem bidx_ofB (s : ByteArray) (i : Int) : bidx s i = idx (Ve.ofB s) i := by
  unfold bidx idx
  split
  · unfold Ve.ofB
    rw [List.getElem?_map]
    congr 1
    rw [Array.getElem?_toList, getElem?_def, getElem?_def]
    rfl
  · rfl
def inB (l : List Int) : Prop := ∀ x ∈ l, 0 ≤ x ∧ x ≤ 255
theorem ofB_inB (s : ByteArray) : inB (Ve.ofB s) := by
  intro x hx
  unfold Ve.ofB at hx
  obtain ⟨b, _, rfl⟩ := List.mem_map.1 hx
  have := b.toNat_lt
  omega
theorem toB_ofB (s : ByteArray) : Ve.toB (Ve.ofB s) = s := by
  unfold Ve.toB Ve.ofB
  rw [List.map_map]
  have : ((fun n : Int => UInt8.ofNat n.toNat) ∘ fun b : UInt8 => (b.toNat : Int)) = id := by funext b; simp
  rw [this, List.map_id]
theorem ofB_toB {l : List Int} (h : inB l) : Ve.ofB (Ve.toB l) = l := by
  unfold Ve.toB Ve.ofB
  simp only [List.map_map]
  conv => rhs; rw [← List.map_id l]
  refine List.map_congr_left (fun x hx => ?_)
  have := h x hx
  simp only [Function.comp, id]
  rw [UInt8.toNat_ofNat']
  omega
theorem bits_and_u64 (a : Int) : 0 ≤ bits .and .u64 a 255 ∧ bits .and .u64 a 255 ≤ 255 := by
  have h : ∀ x : BitVec 64, (x &&& 255#64).toNat ≤ 255 := fun x => by rw [BitVec.toNat_and]; exact Nat.and_le_right
  have := h (BitVec.ofInt 64 a)
  have e : bits .and .u64 a 255 = wu64 (((BitVec.ofInt 64 a) &&& 255#64).toNat : Int) := rfl
  rw [e, wu64_id (by omega) (by omega)]
  omega
/-! srcL -/
theorem srcNext_some (c : List Int) (at_ seed : Int) (hc : inB c) (h0 : 0 ≤ at_) (h1 : at_ ≤ 4611686018427387904) : ∃ x seed', spec_l00Src_next_wd c at_ seed = some (x, c, at_ + 1, seed') ∧ 0 ≤ x ∧ x ≤ 255 := by
  rw [spec_l00Src_next_wd_eq, wi64_id (n := at_ + 1) (by omega) (by omega)]
  by_cases h : at_ < (c.length : Int)
  · have hl : at_.toNat < c.length := by omega
    have hx := hc _ (List.getElem_mem hl)
    rw [sif_t h, idx_int h0, List.getElem?_eq_getElem hl, sbind_some, wi64_id (by omega) (by omega), sif_t (by omega)]
    exact ⟨_, _, rfl, hx.1, hx.2⟩
  · rw [sif_f h]
    by_cases h2 : at_ + 1 ≤ (c.length : Int)
    · rw [sif_t h2]; exact ⟨_, _, rfl, by omega, by omega⟩
    · rw [sif_f h2]
      refine ⟨_, _, rfl, ?_⟩
      obtain ⟨b1, b2⟩ := bits_and_u64 (Int.fdiv (wu64 ((wu64 ((wu64 (seed * 6364136223846793005)) + 0)) + 1442695040888963407)) (2 ^ 40))
      rw [wi64_id (by omega) (by omega)]
      exact ⟨b1, b2⟩
theorem srcPick_some (n : Int) (c : List Int) (at_ seed : Int) (hc : inB c) (h0 : 0 ≤ at_) (h1 : at_ ≤ 4611686018427387900) (hn : n ≤ 65536) : ∃ x at' seed', spec_l00Src_pick_wd n c at_ seed = some (x, c, at', seed') ∧ 0 ≤ x ∧ (1 ≤ n → x < n) ∧ (n ≤ 1 → x = 0) ∧ at_ ≤ at' ∧ at' ≤ at_ + 2 := by
  rw [spec_l00Src_pick_wd_eq]
  by_cases h : n ≤ 1
  · rw [sif_t h]; exact ⟨_, _, _, rfl, by omega, by omega, by omega, by omega, by omega⟩
  · obtain ⟨x, s1, e1, x0, x1⟩ := srcNext_some c at_ seed hc h0 (by omega)
    rw [sif_f h, e1, sbind_some]
    by_cases h2 : n > 200
    · obtain ⟨y, s2, e2, y0, y1⟩ := srcNext_some c (at_ + 1) s1 hc (by omega) (by omega)
      rw [sif_t h2]
      dsimp only
      rw [e2, sbind_some, sif_f (by omega), wi64_id (n := x * 256) (by omega) (by omega), wi64_id (n := x * 256 + y) (by omega) (by omega)]
      have m0 := Int.tmod_nonneg n (show 0 ≤ x * 256 + y by omega)
      have m1 := Int.tmod_lt_of_pos (x * 256 + y) (show 0 < n by omega)
      exact ⟨_, at_ + 1 + 1, s2, rfl, m0, fun _ => m1, by omega, by omega, by omega⟩
    · rw [sif_f h2, sif_f (by omega)]
      have m0 := Int.tmod_nonneg n x0
      have m1 := Int.tmod_lt_of_pos x (show 0 < n by omega)
      exact ⟨_, at_ + 1, s1, rfl, m0, fun _ => m1, by omega, by omega, by omega⟩
theorem wu8_inB (n : Int) : 0 ≤ wu8 n ∧ wu8 n ≤ 255 := by rw [wu8_def]; omega
theorem srcWord_loop (c : List Int) (hc : inB c) : ∀ (k : Nat) (at_ seed : Int) (out : List Int), 0 ≤ at_ → at_ + k ≤ 4611686018427387900 → inB out → out.length + k ≤ 65536 → ∃ l at' seed', spec_l00Src_word_wd_l3 (k : Int) c at_ seed out = some (toB l, c, at', seed') ∧ inB l ∧ l.length = out.length + k ∧ at_ ≤ at' ∧ at' ≤ at_ + k := by
  intro k
  induction k with
  | zero =>
    intro at_ seed out h0 h1 ho hl
    rw [spec_l00Src_word_wd_l3_eq, sif_f (by omega)]
    exact ⟨out, _, _, rfl, ho, by omega, by omega, by omega⟩
  | succ k ih =>
    intro at_ seed out h0 h1 ho hl
    obtain ⟨x, s1, e1, x0, x1⟩ := srcNext_some c at_ seed hc h0 (by omega)
    obtain ⟨l, a, s, e2, g1, g2, g3, g4⟩ := ih (at_ + 1) s1 (out ++ [wu8 x]) (by omega) (by omega) (fun y hy => by
      rcases List.mem_append.1 hy with hy | hy
      · exact ho y hy
      · rw [List.mem_singleton.1 hy]; exact wu8_inB x) (by simp; omega)
    rw [spec_l00Src_word_wd_l3_eq, sif_t (by omega), e1, sbind_some, sif_pos (room_ok (by omega)), wi64_id (by omega) (by omega), show ((k + 1 : Nat) : Int) - 1 = (k : Int) by omega]
    refine ⟨l, a, s, e2, g1, ?_, by omega, by omega⟩
    rw [g2]; simp; omega
theorem srcWord_some (n : Int) (c : List Int) (at_ seed : Int) (hc : inB c) (h0 : 0 ≤ at_) (hn : n ≤ 65536) (h1 : at_ ≤ 4611686018427000000) : ∃ l at' seed', spec_l00Src_word_wd n c at_ seed = some (toB l, c, at', seed') ∧ inB l ∧ (l.length = 0 ∨ (l.length : Int) < n) ∧ at_ ≤ at' ∧ at' ≤ at_ + 2 + 65536 := by
  rw [spec_l00Src_word_wd_eq]
  obtain ⟨x, a1, s1, e1, x0, x1, x2, a0, a2⟩ := srcPick_some n c at_ seed hc h0 (by omega) hn
  have hx : x < 65536 := by
    by_cases h : n ≤ 1
    · have := x2 h; omega
    · have := x1 (by omega); omega
  rw [e1, sbind_some]
  dsimp only
  obtain ⟨l, a, s, e2, g1, g2, g3, g4⟩ := srcWord_loop c hc x.toNat a1 s1 [] (by omega) (by omega) (fun y hy => by cases hy) (by simp; omega)
  have hxx : ((x.toNat : Nat) : Int) = x := by omega
  rw [hxx] at e2
  refine ⟨l, a, s, e2, g1, ?_, by omega, by omega⟩
  simp at g2
  by_cases h : n ≤ 1
  · have := x2 h; omega
  · have := x1 (by omega); omega
theorem toB_size' (l : List Int) : (toB l).size = l.length := toB_size l
/-! revL -/
theorem rev_aux {α R : Type} (l : List α) (F : Int → Int → List α → Option R) (r : List α → Option R) (hend : ∀ (i j : Int) s, ¬ i < j → F i j s = r s)
    (hstep : ∀ (i j : Int) s x y, i < j → 0 ≤ i → j < l.length → s.length = l.length → s[j.toNat]? = some x → s[i.toNat]? = some y → F i j s = F (i + 1) (j - 1) ((s.set i.toNat x).set j.toNat y)) :
    ∀ (n i : Nat) (s : List α), l.length - 2 * i ≤ n → 2 * i ≤ l.length + 1 → s.length = l.length → (∀ k, k < l.length → s[k]? = if k < i ∨ l.length - i ≤ k then l[l.length - 1 - k]? else l[k]?) →
    F i ((l.length : Int) - 1 - i) s = r l.reverse := by
  intro n
  induction n with
  | zero =>
    intro i s hn hi hs hk
    rw [hend _ _ _ (by omega)]
    congr 1
    refine List.ext_getElem? (fun k => ?_)
    rcases Nat.lt_or_ge k l.length with h | h
    · rw [hk k h, List.getElem?_reverse h]
      split
      · rfl
      · congr 1; omega
    · rw [List.getElem?_eq_none (by omega), List.getElem?_eq_none (by simpa using h)]
  | succ n ih =>
    intro i s hn hi hs hk
    by_cases h : (i : Int) < (l.length : Int) - 1 - i
    · have hj : ((l.length : Int) - 1 - i).toNat = l.length - 1 - i := by omega
      have hi2 : ((i : Int)).toNat = i := by omega
      have h1 : l.length - 1 - i < s.length := by omega
      have h2 : i < s.length := by omega
      rw [hstep i _ s s[l.length - 1 - i] s[i] h (by omega) (by omega) hs (by rw [hj]; exact List.getElem?_eq_getElem h1) (by rw [hi2]; exact List.getElem?_eq_getElem h2)]
      have e1 := ih (i + 1) ((s.set i s[l.length - 1 - i]).set (l.length - 1 - i) s[i]) (by omega) (by omega) (by simp [hs]) (fun k hkl => by
        have g1 := hk (l.length - 1 - i) (by omega)
        have g2 := hk i (by omega)
        rw [List.getElem?_eq_getElem h1, if_neg (by omega)] at g1
        rw [List.getElem?_eq_getElem h2, if_neg (by omega)] at g2
        rw [List.getElem?_set, List.getElem?_set]
        by_cases ha : l.length - 1 - i = k
        · subst ha
          rw [if_pos rfl, if_pos (by simp; omega), if_pos (by omega), show l.length - 1 - (l.length - 1 - i) = i by omega, g2]
        · rw [if_neg ha]
          by_cases hb : i = k
          · subst hb
            rw [if_pos rfl, if_pos (by omega), if_pos (by omega), g1]
          · rw [if_neg hb, hk k hkl]
            by_cases hc : k < i ∨ l.length - i ≤ k
            · rw [if_pos hc, if_pos (by omega)]
            · rw [if_neg hc, if_neg (by omega)])
      rw [hj, hi2]
      have e2 : ((i : Int) + 1) = ((i + 1 : Nat) : Int) := by omega
      have e3 : ((l.length : Int) - 1 - i - 1) = (l.length : Int) - 1 - ((i + 1 : Nat) : Int) := by omega
      rw [e2, e3]; exact e1
    · rw [hend _ _ _ h]
      congr 1
      refine List.ext_getElem? (fun k => ?_)
      rcases Nat.lt_or_ge k l.length with h' | h'
      · rw [hk k h', List.getElem?_reverse h']
        split
        · rfl
        · congr 1; omega
      · rw [List.getElem?_eq_none (by omega), List.getElem?_eq_none (by simpa using h')]
theorem rev_loop {α R : Type} (l : List α) (F : Int → Int → List α → Option R) (r : List α → Option R) (hend : ∀ (i j : Int) s, ¬ i < j → F i j s = r s)
    (hstep : ∀ (i j : Int) s x y, i < j → 0 ≤ i → j < l.length → s.length = l.length → s[j.toNat]? = some x → s[i.toNat]? = some y → F i j s = F (i + 1) (j - 1) ((s.set i.toNat x).set j.toNat y)) : F 0 ((l.length : Int) - 1) l = r l.reverse := by
  have := rev_aux l F r hend hstep l.length 0 l (by omega) (by omega) rfl (fun k hk => by rw [if_neg (by omega)])
  simpa using this
/-! FnHex -/
def hexL : List Int := [48, 49, 50, 51, 52, 53, 54, 55, 56, 57, 97, 98, 99, 100, 101, 102]
def hexB : ByteArray := bs [48, 49, 50, 51, 52, 53, 54, 55, 56, 57, 97, 98, 99, 100, 101, 102]
def dig (n : Nat) : Int := hexL.getD n 0
theorem dig_at {n : Int} (h0 : 0 ≤ n) (h1 : n < 16) : bidx hexB n = some (dig n.toNat) := by
  have h : ∀ k : Nat, k < 16 → bidx hexB (k : Int) = some (dig k) := by decide
  have := h n.toNat (by omega)
  rwa [Int.toNat_of_nonneg h0] at this
theorem dig_in (n : Nat) : 0 ≤ dig n ∧ dig n ≤ 255 := by
  by_cases h : n < 16
  · have : ∀ k : Nat, k < 16 → 0 ≤ dig k ∧ dig k ≤ 255 := by decide
    exact this n h
  · unfold dig hexL; simp only [List.getD_eq_getElem?_getD]; rw [List.getElem?_eq_none (by simp; omega)]; decide
theorem dig_ix {n : Nat} (h : n < 16) : indexByteI hexB (dig n) = (n : Int) := by
  have : ∀ k : Nat, k < 16 → indexByteI hexB (dig k) = (k : Int) := by decide
  exact this n h
theorem ix_dig {c : Int} (h0 : 0 ≤ c) (h1 : c ≤ 255) : indexByteI hexB c < 16 ∧ (0 ≤ indexByteI hexB c → dig (indexByteI hexB c).toNat = c) := by
  have : ∀ k : Nat, k < 256 → indexByteI hexB (k : Int) < 16 ∧ (0 ≤ indexByteI hexB (k : Int) → dig (indexByteI hexB (k : Int)).toNat = (k : Int)) := by decide
  have := this c.toNat (by omega)
  rwa [Int.toNat_of_nonneg h0] at this
def hexI (l : List Int) : List Int := l.flatMap (fun b => [dig (b.toNat / 16), dig (b.toNat % 16)])
theorem hexI_in (l : List Int) : inB (hexI l) := by
  intro x hx
  obtain ⟨b, _, h⟩ := List.mem_flatMap.1 hx
  simp at h
  rcases h with rfl | rfl <;> exact dig_in _
theorem hexI_len (l : List Int) : (hexI l).length = 2 * l.length := by
  unfold hexI
  induction l with
  | nil => rfl
  | cons a l ih => rw [List.flatMap_cons, List.length_append, ih]; simp; omega
def readP : List Int → Option (List Int)
  | a :: b :: r =>
    if indexByteI hexB a < 0 ∨ indexByteI hexB b < 0 then none else
      match readP r with
      | some ys => some ((16 * indexByteI hexB a + indexByteI hexB b) :: ys)
      | none => none
  | _ => some []
theorem readP_hexI : ∀ (l : List Int), inB l → readP (hexI l) = some l
  | [], _ => rfl
  | b :: l, h => by
    have hb := h b (by simp)
    show readP (dig (b.toNat / 16) :: dig (b.toNat % 16) :: hexI l) = _
    rw [readP, dig_ix (by omega), dig_ix (by omega), if_neg (by omega), readP_hexI l (fun x hx => h x (by simp [hx]))]
    dsimp only
    congr 2
    omega
theorem hexI_readP : ∀ (n : Nat) (l ys : List Int), l.length ≤ n → l.length % 2 = 0 → inB l → readP l = some ys → hexI ys = l ∧ inB ys
  | 0, l, ys, hn, _, _, h => by
    obtain rfl := List.eq_nil_of_length_eq_zero (show l.length = 0 by omega)
    cases h; exact ⟨rfl, fun x hx => by cases hx⟩
  | n + 1, [], ys, _, _, _, h => by cases h; exact ⟨rfl, fun x hx => by cases hx⟩
  | n + 1, [a], ys, _, he, _, h => by simp at he
  | n + 1, a :: b :: r, ys, hn, he, hb, h => by
    obtain ⟨a0, a1⟩ := hb a (by simp)
    obtain ⟨b0, b1⟩ := hb b (by simp)
    obtain ⟨ga, da⟩ := ix_dig a0 a1
    obtain ⟨gb, db⟩ := ix_dig b0 b1
    rw [readP] at h
    split at h
    · cases h
    · next hneg =>
      split at h
      · next zs hz =>
        cases h
        obtain ⟨e1, e2⟩ := hexI_readP n r zs (by simp at hn; omega) (by simp at he; omega) (fun x hx => hb x (by simp [hx])) hz
        have da := da (by omega)
        have db := db (by omega)
        generalize indexByteI hexB a = p at *
        generalize indexByteI hexB b = q at *
        refine ⟨?_, fun x hx => ?_⟩
        · show dig ((16 * p + q).toNat / 16) :: dig ((16 * p + q).toNat % 16) :: hexI zs = _
          rw [e1, show (16 * p + q).toNat / 16 = p.toNat by omega, show (16 * p + q).toNat % 16 = q.toNat by omega, da, db]
        · rcases List.mem_cons.1 hx with rfl | hx
          · omega
          · exact e2 x hx
      · cases h
theorem and15 {n : Int} (h0 : 0 ≤ n) (h1 : n ≤ 255) : bits .and .u8 n 15 = n % 16 := by
  have h : ∀ k : Nat, k < 256 → bits .and .u8 (k : Int) 15 = (k : Int) % 16 := by decide
  have := h n.toNat (by omega)
  rwa [Int.toNat_of_nonneg h0] at this
theorem impl_HexText_some (l : List Int) (hb : inB l) (hl : l.length ≤ 1048576) : impl_HexText (toB l) = some (toB (hexI l)) := by
  rw [impl_HexText_eq, toB_size]
  have := loop_to l.length (fun i out => impl_HexText_l3 (toB l) (l.length : Int) (i : Int) out) (fun _ _ => some (toB (hexI l))) (fun i out => out = hexI (l.take i)) (fun out ho => by
      rw [impl_HexText_l3_eq, sif_f (by omega), ho, List.take_length])
    (fun i out hi ho ih => by
      have hx := hb _ (List.getElem_mem hi)
      have hbi : bidx (toB l) (i : Int) = some l[i] := by rw [bidx_ofB, ofB_toB hb, idx_nat, List.getElem?_eq_getElem hi]
      have hlen : out.length = 2 * i := by rw [ho, hexI_len, List.length_take]; omega
      have t1 : Int.tdiv l[i] 16 = l[i] / 16 := Int.tdiv_eq_ediv_of_nonneg hx.1
      have t2 : Int.tmod l[i] 16 = l[i] % 16 := Int.tmod_eq_emod_of_nonneg hx.1
      rw [impl_HexText_l3_eq, sif_t (by omega), hbi, sbind_some, t1, wu8_id (by omega) (by omega)]
      have d1 := dig_at (n := l[i] / 16) (by omega) (by omega)
      have d2 := dig_at (n := l[i] % 16) (by omega) (by omega)
      rw [show bs [48, 49, 50, 51, 52, 53, 54, 55, 56, 57, 97, 98, 99, 100, 101, 102] = hexB from rfl, d1, sbind_some, sbind_some, t2, d2, sbind_some, sif_pos (room_ok (by omega)), wi64_add1 (by omega)]
      refine ih _ ?_
      rw [ho, List.take_succ_eq_append_getElem hi]
      unfold hexI
      rw [List.flatMap_append]
      simp only [List.flatMap_cons, List.flatMap_nil, List.append_nil]
      rw [show (l[i] / 16).toNat = l[i].toNat / 16 by omega, show (l[i] % 16).toNat = l[i].toNat % 16 by omega]) 0 [] (by omega) rfl
  simpa using this
theorem readHex_loop (l : List Int) (hb : inB l) (hl : l.length ≤ 1048576) (he : l.length % 2 = 0) : ∀ (n i : Nat) (out : List Int), l.length - i ≤ n → i ≤ l.length → i % 2 = 0 → out.length ≤ i →
    impl_ReadHex_l5 (toB l) (i : Int) out = some (match readP (l.drop i) with | some ys => (toB (out ++ ys), true) | none => (bs [], false)) := by
  intro n
  induction n with
  | zero =>
    intro i out hn hi he2 ho
    rw [impl_ReadHex_l5_eq, toB_size, sif_f (by omega), List.drop_of_length_le (by omega)]
    simp [readP]
  | succ n ih =>
    intro i out hn hi he2 ho
    by_cases hlt : i < l.length
    · have hlt2 : i + 1 < l.length := by omega
      have hx := hb _ (List.getElem_mem hlt)
      have hy := hb _ (List.getElem_mem hlt2)
      have b1 : bidx (toB l) (i : Int) = some l[i] := by rw [bidx_ofB, ofB_toB hb, idx_nat, List.getElem?_eq_getElem hlt]
      have b2 : bidx (toB l) ((i + 1 : Nat) : Int) = some l[i + 1] := by rw [bidx_ofB, ofB_toB hb, idx_nat, List.getElem?_eq_getElem hlt2]
      have hd : l.drop i = l[i] :: l[i + 1] :: l.drop (i + 2) := by rw [List.drop_eq_getElem_cons hlt, List.drop_eq_getElem_cons hlt2]
      rw [impl_ReadHex_l5_eq, toB_size, sif_t (by omega), b1, sbind_some, strings_IndexByte_eq, sbind_some, wi64_add1 (by omega), b2, sbind_some, strings_IndexByte_eq, sbind_some, hd, readP]
      rw [show bs [48, 49, 50, 51, 52, 53, 54, 55, 56, 57, 97, 98, 99, 100, 101, 102] = hexB from rfl]
      have g1 := (ix_dig hx.1 hx.2).1
      have g2 := (ix_dig hy.1 hy.2).1
      generalize indexByteI hexB l[i] = p at *
      generalize indexByteI hexB l[i + 1] = q at *
      by_cases hp : p < 0
      · rw [sif_t hp, if_pos (.inl hp)]
      · rw [sif_f hp]
        by_cases hq : q < 0
        · rw [sif_t hq, if_pos (.inr hq)]
        · rw [sif_f hq, if_neg (by omega), sif_pos (room_ok (by omega)), wi64_id (n := 16 * p) (by omega) (by omega), wi64_id (n := 16 * p + q) (by omega) (by omega), wu8_id (by omega) (by omega), wi64_id (n := (i : Int) + 2) (by omega) (by omega), show (i : Int) + 2 = ((i + 2 : Nat) : Int) by omega]
          rw [ih (i + 2) _ (by omega) (by omega) (by omega) (by simp; omega)]
          cases readP (l.drop (i + 2)) with
          | none => rfl
          | some ys => simp
    · rw [impl_ReadHex_l5_eq, toB_size, sif_f (by omega), List.drop_of_length_le (by omega)]
      simp [readP]
theorem impl_ReadHex_some (l : List Int) (hb : inB l) (hl : l.length ≤ 1048576) : impl_ReadHex (toB l) = some (if l.length % 2 = 1 then (bs [], false) else match readP l with | some ys => (toB ys, true) | none => (bs [], false)) := by
  rw [impl_ReadHex_eq, toB_size, Int.tmod_eq_emod_of_nonneg (by omega)]
  by_cases h : l.length % 2 = 1
  · rw [if_pos h, sif_pos (by rw [beq_iff_eq]; omega)]
  · rw [if_neg h, sif_neg (by rw [beq_eq_false_iff_ne]; omega)]
    have := readHex_loop l hb hl (by omega) l.length 0 [] (by omega) (by omega) rfl (by simp)
    simpa using this
theorem impl_ReverseBytes_some (l : List Int) (hb : inB l) (hl : l.length ≤ 1048576) : impl_ReverseBytes (toB l) = some (toB l.reverse) := by
  rw [impl_ReverseBytes_eq, ofB_toB hb, slices_Reverse_sbyte_byte_v_eq, wi64_id (by omega) (by omega)]
  rw [show slices_Reverse_sbyte_byte_v_l1 0 ((l.length : Int) - 1) l = some l.reverse from rev_loop l (fun i j s => slices_Reverse_sbyte_byte_v_l1 i j s) some (fun i j s h => by
      rw [slices_Reverse_sbyte_byte_v_l1_eq, sif_f h]) (fun i j s x y hij hi hj hs hx hy => by
      rw [slices_Reverse_sbyte_byte_v_l1_eq, sif_t hij, sif_pos (lt3_ok (by omega) (by omega)), hx, sbind_some, sif_pos (lt3_ok (by omega) (by omega)), hy, sbind_some, sif_pos (lt3_ok (by omega) (by omega)), sif_pos (lt3_ok (by omega) (by rw [List.length_set]; omega)), wi64_id (by omega) (by omega), wi64_id (by omega) (by omega)])]
  rfl
theorem spec_DrawHexText_some (c : List Int) (hc : inB c) : ∃ l, spec_DrawHexText c = some (toB l) ∧ inB l ∧ l.length ≤ 20 := by
  obtain ⟨l, a, s, e, h1, h2, _, _⟩ := srcWord_some 20 c 0 0 hc (by omega) (by omega) (by omega)
  rw [spec_DrawHexText_eq, spec_l00From_eq, sbind_some, e, sbind_some]
  exact ⟨l, rfl, h1, by omega⟩
theorem spec_l01Hex_some (l : List Int) (hb : inB l) (hl : l.length ≤ 1048576) : ∃ r, spec_l01Hex (toB l) = some (toB r) ∧ inB r ∧ r.length = 2 * l.length := by
  refine ⟨hexI l, ?_, hexI_in l, hexI_len l⟩
  rw [spec_l01Hex_eq]
  have := loop_to l.length (fun i out => spec_l01Hex_l4 (toB l) hexB (i : Int) out) (fun _ _ => some (toB (hexI l))) (fun i out => out = hexI (l.take i)) (fun out ho => by
      rw [spec_l01Hex_l4_eq, toB_size, sif_f (by omega), ho, List.take_length])
    (fun i out hi ho ih => by
      have hx := hb _ (List.getElem_mem hi)
      have hbi : bidx (toB l) (i : Int) = some l[i] := by rw [bidx_ofB, ofB_toB hb, idx_nat, List.getElem?_eq_getElem hi]
      have hlen : out.length = 2 * i := by rw [ho, hexI_len, List.length_take]; omega
      have t1 : Int.fdiv l[i] (2 ^ 4) = l[i] / 16 := by rw [Int.fdiv_eq_ediv_of_nonneg _ (by decide)]; rfl
      have t2 : bits .and .u8 l[i] 15 = l[i] % 16 := and15 hx.1 hx.2
      rw [spec_l01Hex_l4_eq, toB_size, sif_t (by omega), hbi, sbind_some, t1]
      have d1 := dig_at (n := l[i] / 16) (by omega) (by omega)
      have d2 := dig_at (n := l[i] % 16) (by omega) (by omega)
      rw [d1, sbind_some, sbind_some, t2, d2, sbind_some, sif_pos (room_ok (by omega)), wi64_add1 (by omega)]
      refine ih _ ?_
      rw [ho, List.take_succ_eq_append_getElem hi]
      unfold hexI
      rw [List.flatMap_append]
      simp only [List.flatMap_cons, List.flatMap_nil, List.append_nil]
      rw [show (l[i] / 16).toNat = l[i].toNat / 16 by omega, show (l[i] % 16).toNat = l[i].toNat % 16 by omega]) 0 [] (by omega) rfl
  exact (by simpa using this : spec_l01Hex_l4 (toB l) hexB 0 [] = some (toB (hexI l)))
theorem toB_append (a b : List Int) : toB a ++ toB b = toB (a ++ b) := by
  unfold toB
  apply ByteArray.ext
  simp
theorem spec_DrawReadHex_some (c : List Int) (hc : inB c) : ∃ l, spec_DrawReadHex c = some (toB l) ∧ inB l ∧ l.length ≤ 64 := by
  obtain ⟨l, a, s, e, h1, h2, a0, a1⟩ := srcWord_some 8 c 0 0 hc (by omega) (by omega) (by omega)
  obtain ⟨r, e2, h3, h4⟩ := spec_l01Hex_some l h1 (by omega)
  obtain ⟨x, a', s', e3, x0, x1, _, a2, a3⟩ := srcPick_some 2 c a s hc (by omega) (by omega) (by omega)
  rw [spec_DrawReadHex_eq, spec_l00From_eq, sbind_some, e, sbind_some]
  dsimp only
  rw [e2, sbind_some, spec_l00Src_one_wd_eq, e3, sbind_some, sbind_some]
  dsimp only
  by_cases hx : x = 0
  · rw [sif_pos (by rw [hx]; rfl)]; exact ⟨r, rfl, h3, by omega⟩
  · rw [sif_neg (by simpa using hx), spec_l00Src_text_wdd_eq]
    obtain ⟨y, a'', s'', e4, y0, y1, _, _, _⟩ := srcPick_some 6 c a' s' hc (by omega) (by omega) (by omega)
    have ey : spec_l00Src_pick_wd (([bs [97], bs [48, 103], bs [65, 48], bs [32], bs [102, 102], bs []] : List ByteArray).length : Int) c a' s' = some (y, c, a'', s'') := e4
    rw [ey, sbind_some]
    dsimp only
    have y1 := y1 (by omega)
    have hz : ∃ z, idx ([bs [97], bs [48, 103], bs [65, 48], bs [32], bs [102, 102], bs []] : List ByteArray) y = some (toB z) ∧ inB z ∧ z.length ≤ 2 := by
      rw [idx_int y0]
      have hy : y.toNat = 0 ∨ y.toNat = 1 ∨ y.toNat = 2 ∨ y.toNat = 3 ∨ y.toNat = 4 ∨ y.toNat = 5 := by omega
      rcases hy with h | h | h | h | h | h <;> rw [h]
      · exact ⟨[97], rfl, by unfold inB; decide, by decide⟩
      · exact ⟨[48, 103], rfl, by unfold inB; decide, by decide⟩
      · exact ⟨[65, 48], rfl, by unfold inB; decide, by decide⟩
      · exact ⟨[32], rfl, by unfold inB; decide, by decide⟩
      · exact ⟨[102, 102], rfl, by unfold inB; decide, by decide⟩
      · exact ⟨[], rfl, by unfold inB; decide, by decide⟩
    obtain ⟨z, e5, z1, z2⟩ := hz
    rw [e5, sbind_some, sbind_some]
    dsimp only
    rw [sif_pos (joins_ok (by rw [toB_size, toB_size]; omega)), toB_append]
    refine ⟨r ++ z, rfl, fun w hw => ?_, by simp; omega⟩
    rcases List.mem_append.1 hw with hw | hw
    · exact h3 w hw
    · exact z1 w hw
theorem pure_FnHex (code : List Int) (O0 : code.length ≤ maxLen ∧ code.length * 1 ≤ 140737488351232 ∧ ∀ e_ ∈ code, (Lit.int .u8 e_).wf = true) : laws_FnHex code = some true := by
  have hc : inB code := fun x hx => wf8 (O0.2.2 x hx)
  rw [laws_FnHex_eq, laws_b10Long_eq, sbind_some]
  by_cases hlen : (code.length : Int) > 1048576
  · rw [sif_t hlen]
  · rw [sif_f hlen]
    obtain ⟨l, e1, l1, l2⟩ := spec_DrawHexText_some code hc
    obtain ⟨x, e2, x1, x2⟩ := spec_DrawReadHex_some code hc
    have hh := hexI_len l
    have hR := impl_ReadHex_some (hexI l) (hexI_in l) (by omega)
    rw [if_neg (by omega), readP_hexI l l1] at hR
    rw [e1, sbind_some, impl_HexText_some l l1 (by omega), sbind_some, hR, sbind_some, e2, sbind_some, impl_ReadHex_some x x1 (by omega), sbind_some, sif_true, sif_pos (seq_self _), impl_ReverseBytes_some l l1 (by omega), sbind_some, impl_ReverseBytes_some l.reverse (fun y hy => l1 y (List.mem_reverse.1 hy)) (by simp; omega), sbind_some, List.reverse_reverse, sif_pos (seq_self _)]
    by_cases hodd : x.length % 2 = 1
    · rw [if_pos hodd]; rfl
    · rw [if_neg hodd]
      cases hr : readP x with
      | none => rfl
      | some ys =>
        obtain ⟨g1, g2⟩ := hexI_readP x.length x ys (Nat.le_refl _) (by omega) x1 hr
        have hy := hexI_len ys
        rw [g1] at hy
        dsimp only
        rw [Bool.not_true, sif_false, impl_HexText_some ys g2 (by omega), sbind_some, g1, seq_self]
end Go.Ve.X
