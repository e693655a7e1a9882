/- What 'FnLzShort' comes to, in plain words over numbers, texts and lists: each function that it reaches answers what is told; put together, the law answers true. No condition but the sizes that come in. -/
import Derived.Test.YtkfcmjdooldonaaEqFnLzShort
namespace Go.Ve.X
open Go.Ve
set_option linter.all false
set_option maxRecDepth 100000

/-! bytesL -/
theorem bidx_ofB (s : ByteArray) (i : Int) : bidx s i = idx (Ve.ofB s) i := by
  unfold bidx idx
  split
  · unfold Ve.ofB
    rw [List.getElem?_map]
    congr 1
    rw [Array.getElem?_toList, getElem?_def, getElem?_def]
    rfl
  · rfl
def inB (l : List Int) : Prop := ∀ x ∈ l, 0 ≤ x ∧ x ≤ 255
theorem ofB_inB (s : ByteArray) : inB (Ve.ofB s) := by
  intro x hx
  unfold Ve.ofB at hx
  obtain ⟨b, _, rfl⟩ := List.mem_map.1 hx
  have := b.toNat_lt
  omega
theorem toB_ofB (s : ByteArray) : Ve.toB (Ve.ofB s) = s := by
  unfold Ve.toB Ve.ofB
  rw [List.map_map]
  have : ((fun n : Int => UInt8.ofNat n.toNat) ∘ fun b : UInt8 => (b.toNat : Int)) = id := by funext b; simp
  rw [this, List.map_id]
theorem ofB_toB {l : List Int} (h : inB l) : Ve.ofB (Ve.toB l) = l := by
  unfold Ve.toB Ve.ofB
  simp only [List.map_map]
  conv => rhs; rw [← List.map_id l]
  refine List.map_congr_left (fun x hx => ?_)
  have := h x hx
  simp only [Function.comp, id]
  rw [UInt8.toNat_ofNat']
  omega
theorem bits_and_u64 (a : Int) : 0 ≤ bits .and .u64 a 255 ∧ bits .and .u64 a 255 ≤ 255 := by
  have h : ∀ x : BitVec 64, (x &&& 255#64).toNat ≤ 255 := fun x => by rw [BitVec.toNat_and]; exact Nat.and_le_right
  have := h (BitVec.ofInt 64 a)
  have e : bits .and .u64 a 255 = wu64 (((BitVec.ofInt 64 a) &&& 255#64).toNat : Int) := rfl
  rw [e, wu64_id (by omega) (by omega)]
  omega
/-! leL -/
def leN : List Int → Int
  | [] => 0
  | b :: r => b + 256 * leN r
theorem leN_ge : ∀ {l : List Int}, inB l → 0 ≤ leN l
  | [], _ => by simp [leN]
  | b :: r, h => by
    have := leN_ge (l := r) (fun x hx => h x (by simp [hx])); have := h b (by simp); simp only [leN]; omega
theorem leN_lt : ∀ {l : List Int}, inB l → leN l < 256 ^ l.length
  | [], _ => by simp [leN]
  | b :: r, h => by
    have := leN_lt (l := r) (fun x hx => h x (by simp [hx])); have := h b (by simp)
    simp only [leN, List.length_cons, Int.pow_succ]; omega
theorem leN_append : ∀ (a b : List Int), leN (a ++ b) = leN a + 256 ^ a.length * leN b
  | [], b => by simp [leN]
  | x :: a, b => by
    simp only [List.cons_append, leN, leN_append a b, List.length_cons, Int.pow_succ]
    rw [Int.mul_add, Int.mul_comm (256 ^ a.length) 256, Int.mul_assoc]; omega
theorem inB_take {l : List Int} (h : inB l) (n : Nat) : inB (l.take n) := fun x hx => h x (List.mem_of_mem_take hx)
theorem inB_drop {l : List Int} (h : inB l) (n : Nat) : inB (l.drop n) := fun x hx => h x (List.mem_of_mem_drop hx)
theorem leN_drop {l : List Int} (h : inB l) : ∀ n, leN (l.drop n) ≤ leN l := by
  induction l with
  | nil => intro n; simp
  | cons b r ih =>
    intro n
    cases n with
    | zero => simp
    | succ n =>
      have h1 := ih (fun x hx => h x (by simp [hx])) n
      have h2 := leN_ge (l := r) (fun x hx => h x (by simp [hx]))
      have h3 := h b (by simp)
      simp only [List.drop_succ_cons, leN]; omega
def leB (n : Int) (k : Nat) : List Int := (List.range k).map (fun i => wu8 (Int.fdiv n (2 ^ (8 * i))))
theorem leB_len (n : Int) (k : Nat) : (leB n k).length = k := by simp [leB]
theorem leB_in (n : Int) (k : Nat) : inB (leB n k) := by
  intro x hx
  obtain ⟨i, _, rfl⟩ := List.mem_map.1 hx
  rw [wu8_def]; omega
theorem fdiv_shift (n : Int) (i : Nat) : Int.fdiv n (2 ^ (8 * (i + 1))) = Int.fdiv (Int.fdiv n 256) (2 ^ (8 * i)) := by
  rw [Int.fdiv_eq_ediv_of_nonneg _ (Int.pow_nonneg (by decide)), Int.fdiv_eq_ediv_of_nonneg _ (Int.pow_nonneg (by decide)), Int.fdiv_eq_ediv_of_nonneg _ (by decide)]
  rw [Int.ediv_ediv_of_nonneg (by decide)]
  congr 1
  rw [Nat.mul_add, Int.pow_add, Int.mul_comm]; rfl
theorem leB_succ (n : Int) (k : Nat) : leB n (k + 1) = wu8 n :: leB (Int.fdiv n 256) k := by
  unfold leB
  rw [List.range_succ_eq_map, List.map_cons, List.map_map]
  congr 1
  · simp [Int.fdiv_one]
  · refine List.map_congr_left (fun i _ => ?_)
    simp only [Function.comp]
    rw [Nat.succ_eq_add_one, fdiv_shift]
theorem leN_leB : ∀ (k : Nat) (n : Int), 0 ≤ n → n < 256 ^ k → leN (leB n k) = n
  | 0, n, h0, h1 => by simp at h1; simp [leB, leN]; omega
  | k + 1, n, h0, h1 => by
    rw [Int.pow_succ] at h1
    rw [leB_succ, leN, Int.fdiv_eq_ediv_of_nonneg _ (by decide), leN_leB k (n / 256) (by omega) (by omega), wu8_def]
    omega
theorem or_add {x b k : Nat} (h : x < 2 ^ k) : x ||| (b * 2 ^ k) = x + b * 2 ^ k := by
  have := Nat.shiftLeft_add_eq_or_of_lt h b
  rw [Nat.shiftLeft_eq] at this
  rw [Nat.or_comm, ← this, Nat.add_comm]
theorem bits_or_nat {x y : Nat} (hx : x < 18446744073709551616) (hy : y < 18446744073709551616) : bits .or .u64 (x : Int) (y : Int) = ((x ||| y : Nat) : Int) := by
  have e : bits .or .u64 (x : Int) (y : Int) = wu64 (((BitVec.ofInt 64 (x : Int)) ||| (BitVec.ofInt 64 (y : Int))).toNat : Int) := rfl
  have hxy : x ||| y < 2 ^ 64 := Nat.or_lt_two_pow hx hy
  rw [e, BitVec.toNat_or, BitVec.ofInt_natCast, BitVec.ofInt_natCast, BitVec.toNat_ofNat, BitVec.toNat_ofNat, Nat.mod_eq_of_lt hx, Nat.mod_eq_of_lt hy, wu64_id (by omega) (by omega)]
theorem or_step {n b : Int} {i : Nat} (hi : i ≤ 7) (h0 : 0 ≤ n) (h1 : n < 256 ^ i) (b0 : 0 ≤ b) (b1 : b ≤ 255) : bits .or .u64 n (wu64 ((wu64 b) * 2 ^ (min (wi64 (8 * (i : Int))).toNat 64))) = n + 256 ^ i * b := by
  rw [wi64_id (by omega) (by omega), wu64_id (n := b) (by omega) (by omega)]
  have hm : min (8 * (i : Int)).toNat 64 = 8 * i := by omega
  rw [hm]
  have hp : (256 : Int) ^ i = 2 ^ (8 * i) := by rw [Int.pow_mul]; rfl
  have hpn : ((2 ^ (8 * i) : Nat) : Int) = 2 ^ (8 * i) := by push_cast; rfl
  have hle : (2 : Nat) ^ (8 * i) ≤ 2 ^ 56 := Nat.pow_le_pow_right (by decide) (by omega)
  obtain ⟨bn, rfl⟩ : ∃ bn : Nat, b = bn := ⟨b.toNat, by omega⟩
  obtain ⟨nn, rfl⟩ : ∃ nn : Nat, n = nn := ⟨n.toNat, by omega⟩
  rw [hp, ← hpn] at h1
  have hmul : bn * 2 ^ (8 * i) ≤ 255 * 2 ^ 56 := Nat.mul_le_mul (by omega) hle
  rw [hp, ← hpn, ← Int.natCast_mul, wu64_id (by omega) (by omega), bits_or_nat (by omega) (by omega), or_add (by omega)]
  push_cast
  rw [Int.mul_comm]
theorem wu8_and (m : Int) : wu8 (bits .and .i64 m 255) = wu8 m := by
  have e : bits .and .i64 m 255 = wi64 (((BitVec.ofInt 64 m) &&& 255#64).toNat : Int) := rfl
  have h : ∀ x : BitVec 64, (x &&& 255#64).toNat = x.toNat % 256 := fun x => by
    rw [BitVec.toNat_and]; exact Nat.and_two_pow_sub_one_eq_mod x.toNat 8
  rw [e, h, BitVec.toNat_ofInt, wi64_id (by omega) (by omega), wu8_def, wu8_def]
  omega
theorem toB_append (a b : List Int) : toB a ++ toB b = toB (a ++ b) := by
  unfold toB
  apply ByteArray.ext
  simp
theorem joinsT {a b : List Int} (h : a.length + b.length ≤ 4611686018427387904) : joins (toB a) (toB b) = true := joins_ok (by rw [toB_size, toB_size]; omega)
theorem extract_toB (l : List Int) (i j : Nat) : (toB l).extract i j = toB ((l.take j).drop i) := by
  unfold toB
  apply ByteArray.ext
  simp [ByteArray.data_extract, List.map_take, List.map_drop, List.drop_take]
theorem bidx_toB {l : List Int} (h : inB l) {i : Int} (h0 : 0 ≤ i) : bidx (toB l) i = l[i.toNat]? := by rw [bidx_ofB, ofB_toB h, idx_int h0]
theorem toB_inj {a b : List Int} (ha : inB a) (hb : inB b) (h : toB a = toB b) : a = b := by rw [← ofB_toB ha, h, ofB_toB hb]
theorem seq_toB {a b : List Int} (ha : inB a) (hb : inB b) : seq (toB a) (toB b) = decide (a = b) := by
  rw [seq_eq, Bool.eq_iff_iff]
  simp only [decide_eq_true_eq]
  exact ⟨toB_inj ha hb, fun h => by rw [h]⟩
/-! superL -/
theorem impl_within_inr (n lo hi : Int) : impl_within n lo hi = some (inr n lo hi) := by rw [impl_within_eq, inr_sif]
def vS (b l q t : Int) : Bool := inr b 16 256 && (inr l 8 64 && (decide (l ≤ b - 4) && (inr q 0 1000000000000 && inr t 0 1000000000000)))
theorem vS_iff {b l q t : Int} : vS b l q t = true ↔ (16 ≤ b ∧ b ≤ 256) ∧ (8 ≤ l ∧ l ≤ 64) ∧ l ≤ b - 4 ∧ (0 ≤ q ∧ q ≤ 1000000000000) ∧ (0 ≤ t ∧ t ≤ 1000000000000) := by
  unfold vS
  simp only [Bool.and_eq_true, inr_iff, decide_eq_true_eq]
def halfI (b l q t : Int) : List Int := [65, 82, 82, 83] ++ leB 1 1 ++ leB b 2 ++ leB l 2 ++ leB q 8 ++ leB t 8
def encI (b l q t : Int) : List Int := (halfI b l q t ++ List.replicate 7 0) ++ (halfI b l q t ++ List.replicate 7 0)
theorem halfI_len (b l q t : Int) : (halfI b l q t).length = 25 := by simp [halfI, leB_len]
theorem encI_len (b l q t : Int) : (encI b l q t).length = 64 := by simp [encI, halfI_len]
theorem inB_append {a b : List Int} (ha : inB a) (hb : inB b) : inB (a ++ b) := fun x hx => (List.mem_append.1 hx).elim (ha x) (hb x)
theorem halfI_in (b l q t : Int) : inB (halfI b l q t) := by
  unfold halfI
  refine inB_append (inB_append (inB_append (inB_append (inB_append ?_ (leB_in _ _)) (leB_in _ _)) (leB_in _ _)) (leB_in _ _)) (leB_in _ _)
  unfold inB; decide
theorem zeros_in (n : Nat) : inB (List.replicate n 0) := fun x hx => by rw [(List.mem_replicate.1 hx).2]; omega
theorem encI_in (b l q t : Int) : inB (encI b l q t) := inB_append (inB_append (halfI_in _ _ _ _) (zeros_in 7)) (inB_append (halfI_in _ _ _ _) (zeros_in 7))
theorem impl_putBytes_some (n : Int) (k : Nat) (hk : k ≤ 8) : impl_putBytes n (k : Int) = some (toB (leB n k)) := by
  rw [impl_putBytes_eq, sif_pos (by rw [le3_ok (by omega) (by omega)]; exact room_ok (by omega)), Int.toNat_natCast, List.length_replicate]
  have := loop_to k (fun i out => impl_putBytes_l3 n (k : Int) (i : Int) out) (fun _ _ => some (toB (leB n k))) (fun i out => out = leB n i ++ List.replicate (k - i) 0) (fun out ho => by
      rw [impl_putBytes_l3_eq, sif_f (by omega), ho]; simp)
    (fun i out hi ho ih => by
      have hlen : out.length = k := by rw [ho, List.length_append, leB_len, List.length_replicate]; omega
      rw [impl_putBytes_l3_eq, sif_t (by omega), wi64_id (n := 8 * (i : Int)) (by omega) (by omega), sif_f (by omega), sif_pos (lt3_ok (by omega) (by omega)), wi64_add1 (by omega), Int.toNat_natCast]
      refine ih _ ?_
      rw [ho, show min (8 * (i : Int)).toNat 64 = 8 * i by omega]
      have e1 : k - i = (k - (i + 1)) + 1 := by omega
      rw [e1, List.replicate_succ, List.set_append_right _ _ (by rw [leB_len]; exact Nat.le_refl _), leB_len, Nat.sub_self, List.set_cons_zero]
      unfold leB
      rw [List.range_succ, List.map_append, List.append_assoc]; rfl) 0 (List.replicate k 0) (by omega) (by simp [leB])
  simpa using this
theorem rep7 : repeatB (bs [0]) 7 = some (toB (List.replicate 7 0)) := by rfl
theorem bsA : bs [65, 82, 82, 83] = toB [65, 82, 82, 83] := rfl
/-! reading numbers -/
theorem impl_getBits_some (m : List Int) (hm : inB m) (h8 : m.length ≤ 8) : impl_getBits (toB m) = some (leN m) := by
  rw [impl_getBits_eq, toB_size]
  have := loop_to m.length (fun i n => impl_getBits_l3 (toB m) n (m.length : Int) (i : Int)) (fun _ _ => some (leN m)) (fun i n => n = leN (m.take i)) (fun n hn => by
      rw [impl_getBits_l3_eq, sif_f (by omega), hn, List.take_length])
    (fun i n hi hn ih => by
      have hb := hm _ (List.getElem_mem hi)
      have h0 := leN_ge (inB_take hm i)
      have h1 := leN_lt (inB_take hm i)
      rw [List.length_take, show min i m.length = i by omega] at h1
      rw [impl_getBits_l3_eq, sif_t (by omega), bidx_toB hm (by omega), Int.toNat_natCast, List.getElem?_eq_getElem hi, sbind_some, sif_f (by rw [wi64_id (by omega) (by omega)]; omega), or_step (by omega) (by omega) (by omega) hb.1 hb.2, wi64_add1 (by omega)]
      refine ih _ ?_
      rw [hn, List.take_succ_eq_append_getElem hi, leN_append, List.length_take, show min i m.length = i by omega]
      simp [leN]) 0 0 (by omega) rfl
  simpa using this
theorem impl_number_some (l : List Int) (hl : inB l) (k : Nat) (hk : k ≤ 8) (h : k ≤ l.length) (hn : l.length ≤ 1048576) (bad : Bool) : impl_decoder_number_w (k : Int) (toB l) bad = some (wi64 (leN (l.take k)), toB (l.drop k), bad) := by
  rw [impl_decoder_number_w_eq, impl_decoder_take_w_eq, impl_cut_eq, toB_size, sif_f (by omega), impl_within_inr, sbind_some, wi64_id (n := (l.length : Int) - k) (by omega) (by omega), show inr 0 0 ((l.length : Int) - k) = true by rw [inr_iff]; omega, Bool.not_true, sif_false, wi64_id (n := 0 + (k : Int)) (by omega) (by omega), sif_pos (le3_ok (by omega) (by omega)), sif_pos (le3_ok (by omega) (by omega)), sbind_some]
  dsimp only
  rw [Bool.not_true, sif_false, sif_pos (le3_ok (by omega) (by omega)), sbind_some]
  dsimp only
  have e1 : (0 + (k : Int)).toNat = k := by omega
  rw [e1, Int.toNat_natCast, extract_toB, extract_toB, List.take_length]
  have e2 : (0 : Int).toNat = 0 := rfl
  rw [e2, List.drop_zero, impl_getBits_some (l.take k) (inB_take hl k) (by rw [List.length_take]; omega), sbind_some]
theorem top_small {m : List Int} (hm : inB m) (h8 : m.length = 8) : (m[7]? : Option Int).getD 0 ≤ 127 → leN m ≤ 9223372036854775807 := by
  intro ht
  match m, h8 with
  | [a, b, c, d, e, f, g, h], _ =>
    have h0 := hm a (by simp); have h1 := hm b (by simp); have h2 := hm c (by simp); have h3 := hm d (by simp); have h4 := hm e (by simp); have h5 := hm f (by simp); have h6 := hm g (by simp)
    simp at ht
    simp only [leN]; omega
theorem top_big {m : List Int} (hm : inB m) (h8 : m.length = 8) : 127 < (m[7]? : Option Int).getD 0 → wi64 (leN m) < 0 := by
  intro ht
  match m, h8 with
  | [a, b, c, d, e, f, g, h], _ =>
    have h0 := hm a (by simp); have h1 := hm b (by simp); have h2 := hm c (by simp); have h3 := hm d (by simp); have h4 := hm e (by simp); have h5 := hm f (by simp); have h6 := hm g (by simp); have h7 := hm h (by simp)
    simp at ht
    have hN : leN [a, b, c, d, e, f, g, h] = a + 256 * (b + 256 * (c + 256 * (d + 256 * (e + 256 * (f + 256 * (g + 256 * (h + 256 * 0))))))) := rfl
    rw [wi64_def, if_pos (by omega)]; omega
/-! srcL -/
theorem srcNext_some (c : List Int) (at_ seed : Int) (hc : inB c) (h0 : 0 ≤ at_) (h1 : at_ ≤ 4611686018427387904) : ∃ x seed', spec_l00Src_next_wd c at_ seed = some (x, c, at_ + 1, seed') ∧ 0 ≤ x ∧ x ≤ 255 := by
  rw [spec_l00Src_next_wd_eq, wi64_id (n := at_ + 1) (by omega) (by omega)]
  by_cases h : at_ < (c.length : Int)
  · have hl : at_.toNat < c.length := by omega
    have hx := hc _ (List.getElem_mem hl)
    rw [sif_t h, idx_int h0, List.getElem?_eq_getElem hl, sbind_some, wi64_id (by omega) (by omega), sif_t (by omega)]
    exact ⟨_, _, rfl, hx.1, hx.2⟩
  · rw [sif_f h]
    by_cases h2 : at_ + 1 ≤ (c.length : Int)
    · rw [sif_t h2]; exact ⟨_, _, rfl, by omega, by omega⟩
    · rw [sif_f h2]
      refine ⟨_, _, rfl, ?_⟩
      obtain ⟨b1, b2⟩ := bits_and_u64 (Int.fdiv (wu64 ((wu64 ((wu64 (seed * 6364136223846793005)) + 0)) + 1442695040888963407)) (2 ^ 40))
      rw [wi64_id (by omega) (by omega)]
      exact ⟨b1, b2⟩
theorem srcPick_some (n : Int) (c : List Int) (at_ seed : Int) (hc : inB c) (h0 : 0 ≤ at_) (h1 : at_ ≤ 4611686018427387900) (hn : n ≤ 65536) : ∃ x at' seed', spec_l00Src_pick_wd n c at_ seed = some (x, c, at', seed') ∧ 0 ≤ x ∧ (1 ≤ n → x < n) ∧ (n ≤ 1 → x = 0) ∧ at_ ≤ at' ∧ at' ≤ at_ + 2 := by
  rw [spec_l00Src_pick_wd_eq]
  by_cases h : n ≤ 1
  · rw [sif_t h]; exact ⟨_, _, _, rfl, by omega, by omega, by omega, by omega, by omega⟩
  · obtain ⟨x, s1, e1, x0, x1⟩ := srcNext_some c at_ seed hc h0 (by omega)
    rw [sif_f h, e1, sbind_some]
    by_cases h2 : n > 200
    · obtain ⟨y, s2, e2, y0, y1⟩ := srcNext_some c (at_ + 1) s1 hc (by omega) (by omega)
      rw [sif_t h2]
      dsimp only
      rw [e2, sbind_some, sif_f (by omega), wi64_id (n := x * 256) (by omega) (by omega), wi64_id (n := x * 256 + y) (by omega) (by omega)]
      have m0 := Int.tmod_nonneg n (show 0 ≤ x * 256 + y by omega)
      have m1 := Int.tmod_lt_of_pos (x * 256 + y) (show 0 < n by omega)
      exact ⟨_, at_ + 1 + 1, s2, rfl, m0, fun _ => m1, by omega, by omega, by omega⟩
    · rw [sif_f h2, sif_f (by omega)]
      have m0 := Int.tmod_nonneg n x0
      have m1 := Int.tmod_lt_of_pos x (show 0 < n by omega)
      exact ⟨_, at_ + 1, s1, rfl, m0, fun _ => m1, by omega, by omega, by omega⟩
theorem wu8_inB (n : Int) : 0 ≤ wu8 n ∧ wu8 n ≤ 255 := by rw [wu8_def]; omega
theorem srcWord_loop (c : List Int) (hc : inB c) : ∀ (k : Nat) (at_ seed : Int) (out : List Int), 0 ≤ at_ → at_ + k ≤ 4611686018427387900 → inB out → out.length + k ≤ 65536 → ∃ l at' seed', spec_l00Src_word_wd_l3 (k : Int) c at_ seed out = some (toB l, c, at', seed') ∧ inB l ∧ l.length = out.length + k ∧ at_ ≤ at' ∧ at' ≤ at_ + k := by
  intro k
  induction k with
  | zero =>
    intro at_ seed out h0 h1 ho hl
    rw [spec_l00Src_word_wd_l3_eq, sif_f (by omega)]
    exact ⟨out, _, _, rfl, ho, by omega, by omega, by omega⟩
  | succ k ih =>
    intro at_ seed out h0 h1 ho hl
    obtain ⟨x, s1, e1, x0, x1⟩ := srcNext_some c at_ seed hc h0 (by omega)
    obtain ⟨l, a, s, e2, g1, g2, g3, g4⟩ := ih (at_ + 1) s1 (out ++ [wu8 x]) (by omega) (by omega) (fun y hy => by
      rcases List.mem_append.1 hy with hy | hy
      · exact ho y hy
      · rw [List.mem_singleton.1 hy]; exact wu8_inB x) (by simp; omega)
    rw [spec_l00Src_word_wd_l3_eq, sif_t (by omega), e1, sbind_some, sif_pos (room_ok (by omega)), wi64_id (by omega) (by omega), show ((k + 1 : Nat) : Int) - 1 = (k : Int) by omega]
    refine ⟨l, a, s, e2, g1, ?_, by omega, by omega⟩
    rw [g2]; simp; omega
theorem srcWord_some (n : Int) (c : List Int) (at_ seed : Int) (hc : inB c) (h0 : 0 ≤ at_) (hn : n ≤ 65536) (h1 : at_ ≤ 4611686018427000000) : ∃ l at' seed', spec_l00Src_word_wd n c at_ seed = some (toB l, c, at', seed') ∧ inB l ∧ (l.length = 0 ∨ (l.length : Int) < n) ∧ at_ ≤ at' ∧ at' ≤ at_ + 2 + 65536 := by
  rw [spec_l00Src_word_wd_eq]
  obtain ⟨x, a1, s1, e1, x0, x1, x2, a0, a2⟩ := srcPick_some n c at_ seed hc h0 (by omega) hn
  have hx : x < 65536 := by
    by_cases h : n ≤ 1
    · have := x2 h; omega
    · have := x1 (by omega); omega
  rw [e1, sbind_some]
  dsimp only
  obtain ⟨l, a, s, e2, g1, g2, g3, g4⟩ := srcWord_loop c hc x.toNat a1 s1 [] (by omega) (by omega) (fun y hy => by cases hy) (by simp; omega)
  have hxx : ((x.toNat : Nat) : Int) = x := by omega
  rw [hxx] at e2
  refine ⟨l, a, s, e2, g1, ?_, by omega, by omega⟩
  simp at g2
  by_cases h : n ≤ 1
  · have := x2 h; omega
  · have := x1 (by omega); omega
theorem toB_len (l : List Int) : (toB l).size = l.length := toB_size l
/-! srcM -/
theorem srcOne_some (n : Int) (c : List Int) (at_ seed : Int) (hc : inB c) (h0 : 0 ≤ at_) (h1 : at_ ≤ 4611686018427387900) (hn : n ≤ 65536) : ∃ b at' seed', spec_l00Src_one_wd n c at_ seed = some (b, c, at', seed') ∧ at_ ≤ at' ∧ at' ≤ at_ + 2 := by
  obtain ⟨x, a, s, e, _, _, _, a0, a1⟩ := srcPick_some n c at_ seed hc h0 h1 hn
  rw [spec_l00Src_one_wd_eq, e, sbind_some]
  exact ⟨_, _, _, rfl, a0, a1⟩
/-! srcA -/
/-! headerL -/
abbrev Msg := Int × Int × ByteArray
theorem inB_tail {x : Int} {r : List Int} (h : inB (x :: r)) : inB r := fun y hy => h y (by simp [hy])
theorem bs_nil : bs [] = toB [] := rfl
theorem byte_cons {x : Int} {r : List Int} (h : inB (x :: r)) (hn : r.length ≤ 1048000) (bad : Bool) : impl_decoder_byte_w (toB (x :: r)) bad = some (x, toB r, bad) := by
  have e : impl_decoder_number_w 1 (toB (x :: r)) bad = _ := impl_number_some (x :: r) h 1 (by omega) (by simp) (by simp; omega) bad
  have hx := h x (by simp)
  rw [impl_decoder_byte_w_eq, e, sbind_some]
  show some (wi64 (x + 256 * 0), toB r, bad) = _
  rw [wi64_id (by omega) (by omega)]
  congr 2; omega
theorem take_fail (l : List Int) (n : Int) (h0 : 0 ≤ n) (hn : (l.length : Int) < n) (h1 : n ≤ 1048576) (bad : Bool) : impl_decoder_take_w n (toB l) bad = some (bs [], toB l, true) := by
  rw [impl_decoder_take_w_eq, impl_cut_eq, toB_size, sif_f (by omega), impl_within_inr, sbind_some, wi64_id (by omega) (by omega), show inr 0 0 ((l.length : Int) - n) = false by rw [← Bool.not_eq_true, inr_iff]; omega, Bool.not_false, sif_true, sbind_some]
  dsimp only
  rw [Bool.not_false, sif_true]
theorem getBits_nil : impl_getBits (bs []) = some 0 := by
  rw [bs_nil, impl_getBits_some [] (fun x hx => by cases hx) (by simp)]; rfl
theorem number_fail (l : List Int) (n : Int) (h0 : 0 ≤ n) (hn : (l.length : Int) < n) (h1 : n ≤ 1048576) (bad : Bool) : impl_decoder_number_w n (toB l) bad = some (0, toB l, true) := by
  rw [impl_decoder_number_w_eq, take_fail l n h0 hn h1 bad, sbind_some]
  dsimp only
  rw [getBits_nil, sbind_some, wi64_id (by omega) (by omega)]
theorem byte_nil (bad : Bool) : impl_decoder_byte_w (toB []) bad = some (0, toB [], true) := by
  rw [impl_decoder_byte_w_eq, number_fail [] 1 (by omega) (by simp) (by omega) bad, sbind_some]
theorem take_ok (l : List Int) (n : Int) (h0 : 0 ≤ n) (hn : n ≤ l.length) (h1 : l.length ≤ 1048576) (bad : Bool) : impl_decoder_take_w n (toB l) bad = some (toB (l.take n.toNat), toB (l.drop n.toNat), bad) := by
  rw [impl_decoder_take_w_eq, impl_cut_eq, toB_size, sif_f (by omega), impl_within_inr, sbind_some, wi64_id (n := (l.length : Int) - n) (by omega) (by omega), show inr 0 0 ((l.length : Int) - n) = true by rw [inr_iff]; omega, Bool.not_true, sif_false, wi64_id (n := 0 + n) (by omega) (by omega), sif_pos (le3_ok (by omega) (by omega)), sif_pos (le3_ok (by omega) (by omega)), sbind_some]
  dsimp only
  rw [Bool.not_true, sif_false, sif_pos (le3_ok (by omega) (by omega)), extract_toB, extract_toB, List.take_length, show (0 + n).toNat = n.toNat by omega, show (0 : Int).toNat = 0 from rfl, List.drop_zero]
def okMsg (m : Msg) : Bool := inr m.1 1 9 && (inr m.2.1 0 255 && decide ((m.2.2.size : Int) ≤ 200))
def vH (k r : Int) (ms : List Msg) : Bool := inr k 1 3 && (inr r 0 1000 && (decide ((ms.length : Int) ≤ 24) && ms.all okMsg))
def encMsg (m : Msg) : List Int := leB m.1 1 ++ leB m.2.1 1 ++ leB (m.2.2.size : Int) 1 ++ ofB m.2.2
def encH (k r : Int) (ms : List Msg) : List Int := leB k 1 ++ leB r 2 ++ leB (ms.length : Int) 1 ++ ms.flatMap encMsg
theorem encMsg_in (m : Msg) : inB (encMsg m) := inB_append (inB_append (inB_append (leB_in _ _) (leB_in _ _)) (leB_in _ _)) (ofB_inB _)
theorem encMsg_len (m : Msg) : (encMsg m).length = 3 + m.2.2.size := by simp [encMsg, leB_len, ofB_len]; omega
theorem flat_in (ms : List Msg) : inB (ms.flatMap encMsg) := fun x hx => by
  obtain ⟨m, _, h⟩ := List.mem_flatMap.1 hx
  exact encMsg_in m x h
theorem encH_in (k r : Int) (ms : List Msg) : inB (encH k r ms) := inB_append (inB_append (inB_append (leB_in _ _) (leB_in _ _)) (leB_in _ _)) (flat_in ms)
theorem flat_len {ms : List Msg} (h : ∀ m ∈ ms, m.2.2.size ≤ 200) : (ms.flatMap encMsg).length ≤ ms.length * 203 := by
  induction ms with
  | nil => simp
  | cons m ms ih =>
    have := ih (fun x hx => h x (by simp [hx])); have h1 := h m (by simp)
    rw [List.flatMap_cons, List.length_append, encMsg_len, List.length_cons]; omega
theorem okMsg_size {m : Msg} (h : okMsg m = true) : m.2.2.size ≤ 200 := by
  unfold okMsg at h
  simp only [Bool.and_eq_true, decide_eq_true_eq] at h
  omega
theorem vH_iff {k r : Int} {ms : List Msg} : vH k r ms = true ↔ (1 ≤ k ∧ k ≤ 3) ∧ (0 ≤ r ∧ r ≤ 1000) ∧ (ms.length : Int) ≤ 24 ∧ ∀ m ∈ ms, okMsg m = true := by
  unfold vH
  simp only [Bool.and_eq_true, inr_iff, decide_eq_true_eq, List.all_eq_true]
/-! lzL -/
theorem lwrite_some (s buf : List Int) (hs : inB s) (h : buf.length + s.length ≤ 140737488355328) : strings_Builder_WriteString_wv (toB s) buf = some ((s.length : Int), buf ++ s) := by
  rw [strings_Builder_WriteString_wv_eq, strings_Builder_copyCheck_eq, sbind_some, ofB_toB hs, sif_pos (room_ok (by omega)), toB_size]
theorem lstring_some (buf : List Int) (h : buf.length ≤ 1000000) : strings_Builder_String buf = some (toB buf) := by
  rw [strings_Builder_String_eq]
  unfold textB
  rw [if_pos (by omega)]
theorem seq_nil_cons {x : Int} {r : List Int} (h : inB (x :: r)) : seq (toB (x :: r)) (bs []) = false := by
  rw [bs_nil, seq_toB h (fun x hx => by cases hx), decide_eq_false (by simp)]
theorem dec_done (out : List Int) : impl_LzDecode_l3 (toB []) false out = some (toB out, true) := by
  rw [impl_LzDecode_l3_eq, ← bs_nil, seq_self, Bool.not_true, sif_false, sif_false]
theorem dec_lit {w rest out : List Int} (hw : inB w) (hr : inB rest) (h1 : 1 ≤ w.length) (h2 : w.length ≤ 128) (ho : out.length + w.length ≤ 1100) (hl : rest.length ≤ 10000) : impl_LzDecode_l3 (toB (((w.length : Int) - 1) :: (w ++ rest))) false out = impl_LzDecode_l3 (toB rest) false (out ++ w) := by
  have hin : inB (((w.length : Int) - 1) :: (w ++ rest)) := fun x hx => by
    rcases List.mem_cons.1 hx with rfl | hx
    · omega
    · exact inB_append hw hr x hx
  rw [impl_LzDecode_l3_eq, seq_nil_cons hin, Bool.not_false, sif_true, sif_true, byte_cons hin (by simp; omega), sbind_some]
  dsimp only
  rw [sif_t (by omega), wi64_id (by omega) (by omega), show (w.length : Int) - 1 + 1 = (w.length : Int) by omega, take_ok (w ++ rest) (w.length : Int) (by omega) (by rw [List.length_append]; omega) (by simp; omega) false, sbind_some, Int.toNat_natCast, List.take_left' rfl, List.drop_left' rfl]
  dsimp only
  rw [ofB_toB hw, sif_pos (room_ok (by omega)), sif_f (by rw [List.length_append]; omega)]
theorem dec_copy_loop (out w : List Int) (rest : ByteArray) (d : Nat) (hd : 1 ≤ d) (hdo : d ≤ out.length) (ho : out.length + w.length ≤ 1100) (hw : ∀ i (hi : i < w.length), (out ++ w)[out.length + i - d]? = some w[i]) : ∀ n i, i + n = w.length → impl_LzDecode_l11 (d : Int) (w.length : Int) (i : Int) rest false (out ++ w.take i) = impl_LzDecode_l3 rest false (out ++ w) := by
  intro n
  induction n with
  | zero =>
    intro i hi
    rw [impl_LzDecode_l11_eq, sif_f (by omega), List.take_of_length_le (by omega), sif_f (by rw [List.length_append]; omega)]
  | succ n ih =>
    intro i hi
    have hlt : i < w.length := by omega
    have hlen : (out ++ w.take i).length = out.length + i := by rw [List.length_append, List.length_take]; omega
    have hx := hw i hlt
    have hx' : (out ++ w.take i)[out.length + i - d]? = some w[i] := by
      rw [← hx]
      rcases Nat.lt_or_ge (out.length + i - d) out.length with h | h
      · rw [List.getElem?_append_left h, List.getElem?_append_left h]
      · rw [List.getElem?_append_right h, List.getElem?_append_right h, List.getElem?_take, if_pos (by omega)]
    rw [impl_LzDecode_l11_eq, sif_t (by omega), hlen, wi64_id (by omega) (by omega), sif_pos (lt3_ok (by omega) (by omega)), show (((out.length + i : Nat) : Int) - (d : Int)).toNat = out.length + i - d by omega, hx', sbind_some, sif_pos (room_ok (by omega)), wi64_add1 (by omega), List.append_assoc, ← List.take_succ_eq_append_getElem hlt]
    exact ih (i + 1) (by omega)
theorem lz_num (d : Nat) (hd : d ≤ 60000) (r : List Int) (hr : inB r) (hn : r.length ≤ 10000) (bad : Bool) : impl_decoder_number_w 2 (toB (leB d 2 ++ r)) bad = some ((d : Int), toB r, bad) := by
  have e := impl_number_some (leB d 2 ++ r) (inB_append (leB_in _ _) hr) 2 (by omega) (by rw [List.length_append, leB_len]; omega) (by rw [List.length_append, leB_len]; omega) bad
  rw [List.take_left' (leB_len _ 2), List.drop_left' (leB_len _ 2), leN_leB 2 _ (by omega) (by omega), wi64_id (by omega) (by omega)] at e
  exact e
theorem dec_copy {w rest out : List Int} {d : Nat} (hr : inB rest) (h3 : 3 ≤ w.length) (h130 : w.length ≤ 130) (hd : 1 ≤ d) (hdo : d ≤ out.length) (ho : out.length + w.length ≤ 1100) (hw : ∀ i (hi : i < w.length), (out ++ w)[out.length + i - d]? = some w[i]) (hl : rest.length ≤ 9000) : impl_LzDecode_l3 (toB (((w.length : Int) + 125) :: (leB d 2 ++ rest))) false out = impl_LzDecode_l3 (toB rest) false (out ++ w) := by
  have hin : inB (((w.length : Int) + 125) :: (leB d 2 ++ rest)) := fun x hx => by
    rcases List.mem_cons.1 hx with rfl | hx
    · omega
    · exact inB_append (leB_in _ _) hr x hx
  rw [impl_LzDecode_l3_eq, seq_nil_cons hin, Bool.not_false, sif_true, sif_true, byte_cons hin (by rw [List.length_append, leB_len]; omega), sbind_some]
  dsimp only
  rw [sif_f (by omega), lz_num d (by omega) rest hr (by omega), sbind_some, impl_within_inr, sbind_some, show inr (d : Int) 1 (out.length : Int) = true by rw [inr_iff]; omega, Bool.not_true, sif_false, wi64_id (by omega) (by omega), show (w.length : Int) + 125 - 125 = (w.length : Int) by omega]
  have := dec_copy_loop out w (toB rest) d hd hdo ho hw w.length 0 (by omega)
  rw [List.take_zero, List.append_nil] at this
  exact this
/-! literals -/
theorem lits_some (n : Nat) : ∀ (s buf : List Int), s.length ≤ n → inB s → s.length ≤ 1100 → buf.length + 2 * s.length ≤ 10000 → ∃ E, impl_literals_l2 (toB s) buf = some (toB (buf ++ E)) ∧ inB E ∧ E.length ≤ 2 * s.length ∧ (s.length ≤ 128 → E.length ≤ s.length + 1) ∧
    ∀ out rest, out.length + s.length ≤ 1100 → inB rest → rest.length ≤ 5000 → impl_LzDecode_l3 (toB (E ++ rest)) false out = impl_LzDecode_l3 (toB rest) false (out ++ s) := by
  induction n with
  | zero =>
    intro s buf hs hin h1 h2
    obtain rfl : s = [] := List.eq_nil_of_length_eq_zero (by omega)
    refine ⟨[], ?_, (fun x hx => by cases hx), by simp, by simp, fun out rest _ _ _ => by simp⟩
    rw [impl_literals_l2_eq, ← bs_nil, seq_self, Bool.not_true, sif_false, lstring_some _ (by omega), sbind_some, List.append_nil]
  | succ n ih =>
    intro s buf hs hin h1 h2
    cases s with
    | nil =>
      refine ⟨[], ?_, (fun x hx => by cases hx), by simp, by simp, fun out rest _ _ _ => by simp⟩
      rw [impl_literals_l2_eq, ← bs_nil, seq_self, Bool.not_true, sif_false, lstring_some _ (by omega), sbind_some, List.append_nil]
    | cons x r =>
      obtain ⟨c, hc, hc1, hc2⟩ : ∃ c : Nat, (if ((x :: r).length : Int) < 128 then ((x :: r).length : Int) else 128) = (c : Int) ∧ (1 ≤ c ∧ c ≤ 128 ∧ c ≤ (x :: r).length) ∧ ((x :: r).length ≤ 128 → c = (x :: r).length) := by
        by_cases h : ((x :: r).length : Int) < 128
        · exact ⟨(x :: r).length, by rw [if_pos h], by simp at h ⊢; omega, fun _ => rfl⟩
        · refine ⟨128, by rw [if_neg h]; rfl, by simp at h ⊢; omega, fun h' => ?_⟩
          simp at h h' ⊢; omega
      rw [impl_literals_l2_eq, seq_nil_cons hin, Bool.not_false, sif_true, toB_size, hc]
      generalize hs' : x :: r = s at *
      have hne : s ≠ [] := by rw [← hs']; simp
      have ew : wu8 (wi64 ((c : Int) - 1)) = (c : Int) - 1 := by rw [wi64_id (by omega) (by omega), wu8_id (by omega) (by omega)]
      have ht : inB (s.take c) := inB_take hin c
      have htl : (s.take c).length = c := by rw [List.length_take]; omega
      have h1in : inB [(c : Int) - 1] := fun y hy => by rw [List.mem_singleton.1 hy]; omega
      obtain ⟨E, e1, e2, e3, e4, e5⟩ := ih (s.drop c) (buf ++ ([(c : Int) - 1] ++ s.take c)) (by rw [List.length_drop]; omega) (inB_drop hin c) (by rw [List.length_drop]; omega) (by rw [List.length_append, List.length_append, htl, List.length_drop, List.length_singleton]; omega)
      rw [sif_pos (le3_ok (by omega) (by omega)), ew, Int.toNat_natCast, extract_toB, extract_toB, List.drop_zero, List.take_length, sif_pos (joinsT (by simp; omega)), toB_append, lwrite_some _ _ (inB_append h1in ht) (by simp; omega), sbind_some, sif_pos (le3_ok (by omega) (by omega)), e1]
      refine ⟨[(c : Int) - 1] ++ s.take c ++ E, by simp, inB_append (inB_append h1in ht) e2, ?_, fun h => ?_, fun out rest ho hr hrl => ?_⟩
      · rw [List.length_drop] at e3
        simp only [List.length_append, htl, List.length_cons, List.length_nil]; omega
      · have hd : s.drop c = [] := List.drop_of_length_le (by rw [hc2 h]; exact Nat.le_refl _)
        rw [hd] at e3
        simp only [List.length_append, htl, List.length_cons, List.length_nil] at e3 ⊢; omega
      · rw [List.length_drop] at e3
        have h0 := dec_lit (w := s.take c) (rest := E ++ rest) (out := out) ht (inB_append e2 hr) (by omega) (by omega) (by omega) (by rw [List.length_append]; omega)
        rw [htl] at h0
        have h5 := e5 (out ++ s.take c) rest (by rw [List.length_append, htl, List.length_drop]; omega) hr hrl
        rw [List.append_assoc, List.take_append_drop] at h5
        rw [List.append_assoc, List.append_assoc, List.singleton_append]
        exact h0.trans h5
theorem impl_literals_some (s : List Int) (hs : inB s) (hn : s.length ≤ 1100) : ∃ E, impl_literals (toB s) = some (toB E) ∧ inB E ∧ E.length ≤ 2 * s.length ∧ (s.length ≤ 128 → E.length ≤ s.length + 1) ∧
    ∀ out rest, out.length + s.length ≤ 1100 → inB rest → rest.length ≤ 5000 → impl_LzDecode_l3 (toB (E ++ rest)) false out = impl_LzDecode_l3 (toB rest) false (out ++ s) := by
  obtain ⟨E, e, h⟩ := lits_some s.length s [] (Nat.le_refl _) hs hn (by simp; omega)
  rw [impl_literals_eq, e]
  exact ⟨E, rfl, h⟩
/-! matches -/
def Mt (l : List Int) (a d n : Nat) : Prop := 1 ≤ d ∧ d ≤ a ∧ a + n ≤ l.length ∧ ∀ i, i < n → l[a + i]? = l[a + i - d]?
theorem match_l6 (l : List Int) (hl : inB l) (hn : l.length ≤ 2000) (a d : Nat) (hd : 1 ≤ d) (hda : d ≤ a) (most dist : Int) : ∀ k n, n + k = 130 → a + n ≤ l.length → (∀ i, i < n → l[a + i]? = l[a + i - d]?) →
    ∃ n' : Nat, n' ≤ 130 ∧ Mt l a d n' ∧ (∀ m, m ≤ 130 → Mt l a d m → m ≤ n') ∧ impl_matchAt_l6 (toB l) (a : Int) most dist (d : Int) (n : Int) = sif (decide ((n' : Int) > most)) (impl_matchAt_l3 (toB l) (a : Int) (n' : Int) (d : Int) ((d + 1 : Nat) : Int)) (impl_matchAt_l3 (toB l) (a : Int) most dist ((d + 1 : Nat) : Int)) := by
  intro k
  induction k with
  | zero =>
    intro n hk ha hm
    refine ⟨n, by omega, ⟨hd, hda, ha, hm⟩, fun m h _ => by omega, ?_⟩
    rw [impl_matchAt_l6_eq, sif_f (by omega), wi64_add1 (by omega)]
  | succ k ih =>
    intro n hk ha hm
    rw [impl_matchAt_l6_eq, sif_t (by omega), wi64_id (n := (a : Int) + n) (by omega) (by omega), wi64_id (n := (a : Int) + n - d) (by omega) (by omega), wi64_add1 (n := n) (by omega), wi64_add1 (n := d) (by omega), toB_size]
    by_cases h : a + n < l.length
    · have h2 : a + n - d < l.length := by omega
      rw [sif_t (by omega), bidx_toB hl (by omega), bidx_toB hl (by omega), show ((a : Int) + n).toNat = a + n by omega, show ((a : Int) + n - d).toNat = a + n - d by omega, List.getElem?_eq_getElem h, List.getElem?_eq_getElem h2, sbind_some, sbind_some]
      by_cases he : l[a + n] = l[a + n - d]
      · rw [he, beq_self_eq_true, sif_true]
        exact ih (n + 1) (by omega) (by omega) (fun i hi => by
          by_cases hi' : i < n
          · exact hm i hi'
          · obtain rfl : i = n := by omega
            rw [List.getElem?_eq_getElem h, List.getElem?_eq_getElem h2, he])
      · rw [show (l[a + n] == l[a + n - d]) = false by rw [beq_eq_false_iff_ne]; exact he, sif_false]
        refine ⟨n, by omega, ⟨hd, hda, ha, hm⟩, fun m h130 hmt => ?_, rfl⟩
        rcases Nat.lt_or_ge n m with hlt | hge
        · have := hmt.2.2.2 n hlt
          rw [List.getElem?_eq_getElem h, List.getElem?_eq_getElem h2] at this
          exact absurd (Option.some.inj this) he
        · exact hge
    · rw [sif_f (by omega)]
      refine ⟨n, by omega, ⟨hd, hda, ha, hm⟩, fun m _ hmt => ?_, rfl⟩
      have := hmt.2.2.1; omega
theorem match_l3 (l : List Int) (hl : inB l) (hn : l.length ≤ 2000) (a : Nat) (ha : a ≤ l.length) : ∀ k d (most dist : Nat), d + k = a + 1 → 1 ≤ d → most ≤ 130 → (most = 0 ∨ Mt l a dist most) → (∀ d' m, d' < d → m ≤ 130 → Mt l a d' m → m ≤ most) →
    ∃ n d' : Nat, impl_matchAt_l3 (toB l) (a : Int) (most : Int) (dist : Int) (d : Int) = some ((n : Int), (d' : Int)) ∧ n ≤ 130 ∧ (n = 0 ∨ Mt l a d' n) ∧ (∀ d' m, m ≤ 130 → Mt l a d' m → m ≤ n) := by
  intro k
  induction k with
  | zero =>
    intro d most dist hk h1 hm hM hX
    rw [impl_matchAt_l3_eq, sif_f (by omega)]
    exact ⟨most, dist, rfl, hm, hM, fun d' m h130 hmt => hX d' m (by have := hmt.2.1; omega) h130 hmt⟩
  | succ k ih =>
    intro d most dist hk h1 hm hM hX
    obtain ⟨n', g1, g2, g3, g4⟩ := match_l6 l hl hn a d h1 (by omega) (most : Int) (dist : Int) 130 0 (by omega) (by omega) (fun i hi => by omega)
    rw [impl_matchAt_l3_eq, sif_t (by omega), show impl_matchAt_l6 (toB l) (a : Int) (most : Int) (dist : Int) (d : Int) 0 = _ from g4]
    by_cases h : (n' : Int) > (most : Int)
    · rw [sif_t h]
      refine ih (d + 1) n' d (by omega) (by omega) g1 (.inr g2) (fun d' m hlt h130 hmt => ?_)
      rcases Nat.lt_or_ge d' d with h' | h'
      · have := hX d' m h' h130 hmt; omega
      · obtain rfl : d' = d := by omega
        exact g3 m h130 hmt
    · rw [sif_f h]
      refine ih (d + 1) most dist (by omega) (by omega) hm hM (fun d' m hlt h130 hmt => ?_)
      rcases Nat.lt_or_ge d' d with h' | h'
      · exact hX d' m h' h130 hmt
      · obtain rfl : d' = d := by omega
        have := g3 m h130 hmt; omega
theorem impl_matchAt_some (l : List Int) (hl : inB l) (hn : l.length ≤ 2000) (a : Nat) (ha : a ≤ l.length) : ∃ n d : Nat, impl_matchAt (toB l) (a : Int) = some ((n : Int), (d : Int)) ∧ n ≤ 130 ∧ (n = 0 ∨ Mt l a d n) ∧ (∀ d' m, m ≤ 130 → Mt l a d' m → m ≤ n) := by
  rw [impl_matchAt_eq]
  exact match_l3 l hl hn a ha a 1 0 0 (by omega) (by omega) (by omega) (.inl rfl) (fun d' m h _ hmt => by have := hmt.1; omega)
/-! the whole -/
theorem take_part (l : List Int) (p a : Nat) (h1 : p ≤ a) (h2 : a ≤ l.length) : l.take p ++ (l.take a).drop p = l.take a := by
  have : l.take p = (l.take a).take p := by rw [List.take_take, Nat.min_eq_left h1]
  rw [this, List.take_append_drop]
theorem lz_step {l : List Int} (hl : inB l) (hn : l.length ≤ 1100) {p a n d : Nat} {T : List Int} (hp : p ≤ a) (ha : a < l.length) (hT : T.length ≤ 10000) (h3 : 3 ≤ n) (h130 : n ≤ 130) (hm : Mt l a d n) (em : impl_matchAt (toB l) (a : Int) = some ((n : Int), (d : Int))) :
    ∃ E, impl_literals (toB ((l.take a).drop p)) = some (toB E) ∧ inB E ∧ E.length ≤ 2 * (a - p) ∧ (a - p ≤ 128 → E.length ≤ a - p + 1) ∧
      impl_lzEncode_l4 (toB l) (p : Int) (a : Int) T = impl_lzEncode_l4 (toB l) ((a + n : Nat) : Int) ((a + n : Nat) : Int) (T ++ E ++ (((n : Int) + 125) :: leB d 2)) ∧
      ∀ rest, inB rest → rest.length ≤ 4900 → impl_LzDecode_l3 (toB (E ++ (((n : Int) + 125) :: leB d 2) ++ rest)) false (l.take p) = impl_LzDecode_l3 (toB rest) false (l.take (a + n)) := by
  have hs : ((l.take a).drop p).length = a - p := by rw [List.length_drop, List.length_take]; omega
  have hL := hm.2.2.1
  obtain ⟨E, e1, e2, e3, e4, e5⟩ := impl_literals_some ((l.take a).drop p) (inB_drop (inB_take hl a) p) (by omega)
  rw [hs] at e3 e4
  have hw : wu8 (wi64 ((n : Int) + 125)) = (n : Int) + 125 := by rw [wi64_id (by omega) (by omega), wu8_id (by omega) (by omega)]
  have hin : inB (((n : Int) + 125) :: leB d 2) := fun x hx => by
    rcases List.mem_cons.1 hx with rfl | hx
    · omega
    · exact leB_in _ _ x hx
  have hEl : E.length ≤ 2200 := by omega
  refine ⟨E, e1, e2, e3, e4, ?_, fun rest hr hrl => ?_⟩
  · have hpb := impl_putBytes_some (d : Int) 2 (by omega)
    rw [impl_lzEncode_l4_eq, toB_size, sif_t (by omega), em, sbind_some]
    dsimp only
    rw [sif_f (by omega), sif_pos (le3_ok (by omega) (by omega)), sif_pos (le3_ok (by omega) (by omega)), Int.toNat_natCast, Int.toNat_natCast, extract_toB, e1, sbind_some, lwrite_some _ _ e2 (by omega), sbind_some, show impl_putBytes (d : Int) 2 = _ from hpb, sbind_some, hw, sif_pos (joinsT (by simp [leB_len])), toB_append, List.singleton_append, lwrite_some _ _ hin (by simp [leB_len]; omega), sbind_some, wi64_id (n := (a : Int) + n) (by omega) (by omega)]
    rfl
  · have h5 := e5 (l.take p) ((((n : Int) + 125) :: leB d 2) ++ rest) (by rw [List.length_take, hs]; omega) (inB_append hin hr) (by simp [leB_len]; omega)
    rw [take_part l p a hp (by omega)] at h5
    rw [List.append_assoc, h5]
    have hwl : ((l.take (a + n)).drop a).length = n := by rw [List.length_drop, List.length_take]; omega
    have htl : (l.take a).length = a := by rw [List.length_take]; omega
    have hcat := take_part l a (a + n) (by omega) hL
    have h6 := dec_copy (w := (l.take (a + n)).drop a) (rest := rest) (out := l.take a) (d := d) hr (by omega) (by omega) hm.1 (by rw [htl]; exact hm.2.1) (by omega) (fun i hi => by
      rw [hwl] at hi
      have hai : a + i < l.length := by omega
      rw [htl, hcat, List.getElem?_take, if_pos (by omega), ← hm.2.2.2 i hi, List.getElem?_eq_getElem hai]
      congr 1
      rw [List.getElem_drop, List.getElem_take]) (by omega)
    rw [hwl, hcat] at h6
    exact h6
theorem lz_end {l : List Int} (hl : inB l) (hn : l.length ≤ 1100) {p a : Nat} {T : List Int} (hp : p ≤ a) (ha : a = l.length) (hT : T.length ≤ 10000) : ∃ E, impl_lzEncode_l4 (toB l) (p : Int) (a : Int) T = some (toB (T ++ E)) ∧ inB E ∧ E.length ≤ 2 * (a - p) ∧ (a - p ≤ 128 → E.length ≤ a - p + 1) ∧ impl_LzDecode_l3 (toB E) false (l.take p) = some (toB l, true) := by
  have hs : (l.drop p).length = a - p := by rw [List.length_drop]; omega
  obtain ⟨E, e1, e2, e3, e4, e5⟩ := impl_literals_some (l.drop p) (inB_drop hl p) (by omega)
  rw [hs] at e3 e4
  refine ⟨E, ?_, e2, e3, e4, ?_⟩
  · rw [impl_lzEncode_l4_eq, toB_size, sif_f (by omega), lstring_some T (by omega), sbind_some, sif_pos (le3_ok (by omega) (by omega)), Int.toNat_natCast, extract_toB, List.take_length, e1, sbind_some, sif_pos (joinsT (by omega)), toB_append]
  · have := e5 (l.take p) [] (by rw [List.length_take, hs]; omega) (fun x hx => by cases hx) (by simp)
    rw [List.append_nil, List.take_append_drop, dec_done] at this
    exact this
theorem lz_all {l : List Int} (hl : inB l) (hn : l.length ≤ 1100) : ∀ (k a p : Nat) (T : List Int), l.length - a ≤ k → p ≤ a → a ≤ l.length → inB T → T.length ≤ 2 * p → (∀ rest, inB rest → rest.length ≤ 4900 - 4 * p → impl_LzDecode_l3 (toB (T ++ rest)) false [] = impl_LzDecode_l3 (toB rest) false (l.take p)) →
    ∃ E, impl_lzEncode_l4 (toB l) (p : Int) (a : Int) T = some (toB E) ∧ inB E ∧ E.length ≤ 2 * l.length ∧ impl_LzDecode_l3 (toB E) false [] = some (toB l, true) := by
  intro k
  induction k with
  | zero =>
    intro a p T hk hp ha hT hTl hD
    obtain ⟨E, e1, e2, e3, _, e5⟩ := lz_end hl hn hp (by omega) (T := T) (by omega)
    exact ⟨T ++ E, e1, inB_append hT e2, by rw [List.length_append]; omega, by rw [hD E e2 (by omega)]; exact e5⟩
  | succ k ih =>
    intro a p T hk hp ha hT hTl hD
    by_cases hlt : a < l.length
    · obtain ⟨n, d, em, h130, hM, _⟩ := impl_matchAt_some l hl (by omega) a ha
      by_cases h3 : n < 3
      · rw [impl_lzEncode_l4_eq, toB_size, sif_t (by omega), em, sbind_some]
        dsimp only
        rw [sif_t (by omega), wi64_add1 (by omega)]
        exact ih (a + 1) p T (by omega) (by omega) (by omega) hT hTl hD
      · have hmt : Mt l a d n := hM.resolve_left (by omega)
        have hL := hmt.2.2.1
        obtain ⟨E, e1, e2, e3, _, e5, e6⟩ := lz_step (T := T) hl hn hp hlt (by omega) (by omega) h130 hmt em
        have hin : inB (((n : Int) + 125) :: leB d 2) := fun x hx => by
          rcases List.mem_cons.1 hx with rfl | hx
          · omega
          · exact leB_in _ _ x hx
        rw [e5]
        refine ih (a + n) (a + n) _ (by omega) (Nat.le_refl _) hL (inB_append (inB_append hT e2) hin) (by simp [leB_len]; omega) (fun rest hr hrl => ?_)
        rw [List.append_assoc, List.append_assoc, hD _ (inB_append e2 (inB_append hin hr)) (by simp [leB_len]; omega), ← List.append_assoc]
        exact e6 rest hr (by omega)
    · obtain ⟨E, e1, e2, e3, _, e5⟩ := lz_end hl hn hp (by omega) (T := T) (by omega)
      exact ⟨T ++ E, e1, inB_append hT e2, by rw [List.length_append]; omega, by rw [hD E e2 (by omega)]; exact e5⟩
theorem lz_encode_some {l : List Int} (hl : inB l) (hn : l.length ≤ 1100) : ∃ E, impl_LzEncode (toB l) = some (toB E) ∧ inB E ∧ E.length ≤ 2 * l.length ∧ impl_LzDecode (toB E) = some (toB l, true) := by
  obtain ⟨E, e1, e2, e3, e4⟩ := lz_all hl hn l.length 0 0 [] (by omega) (by omega) (by omega) (fun x hx => by cases hx) (by simp) (fun rest _ _ => by simp)
  rw [impl_LzEncode_eq, toB_size, sif_f (by omega), impl_lzEncode_eq, show impl_lzEncode_l4 (toB l) 0 0 [] = _ from e1, sbind_some]
  exact ⟨E, rfl, e2, e3, by rw [impl_LzDecode_eq]; exact e4⟩
/-! repetitions -/
def Per (l : List Int) (k : Nat) : Prop := 1 ≤ k ∧ k ≤ 8 ∧ ∀ i, k ≤ i → i < l.length → l[i]? = l[i - k]?
def hB (r : Nat) : Nat := if r ≤ 2 then r else 4 * ((r + 127) / 130) + 2
theorem hB_step {r n : Nat} (h3 : 3 ≤ r) (hn : n = min 130 r) : 4 + hB (r - n) ≤ hB r := by
  unfold hB
  rw [if_neg (show ¬ r ≤ 2 by omega)]
  split <;> omega
theorem lz_late {l : List Int} {k : Nat} (hl : inB l) (hn : l.length ≤ 1100) (hP : Per l k) : ∀ (f r a p : Nat) (T : List Int), r ≤ f → a + r = l.length → k ≤ a → p ≤ a → a - p ≤ 8 + (2 - r) → T.length ≤ 9000 - 6 * r →
    ∃ E, impl_lzEncode_l4 (toB l) (p : Int) (a : Int) T = some (toB E) ∧ E.length ≤ T.length + (a - p) + 1 + hB r := by
  intro f
  induction f with
  | zero =>
    intro r a p T hf hr hk hp hm hT
    obtain ⟨E, e1, e2, e3, e4, _⟩ := lz_end hl hn hp (by omega) (T := T) (by omega)
    exact ⟨T ++ E, e1, by have := e4 (by omega); rw [List.length_append]; omega⟩
  | succ f ih =>
    intro r a p T hf hr hk hp hm hT
    by_cases hlt : a < l.length
    · obtain ⟨n, d, em, h130, hM, hX⟩ := impl_matchAt_some l hl (by omega) a (by omega)
      have hmin : min 130 r ≤ n := hX k (min 130 r) (by omega) ⟨hP.1, hk, by omega, fun i hi => hP.2.2 (a + i) (by omega) (by omega)⟩
      have hnr : n ≤ r := by
        rcases hM with h | h
        · omega
        · have := h.2.2.1; omega
      by_cases h3 : n < 3
      · rw [impl_lzEncode_l4_eq, toB_size, sif_t (by omega), em, sbind_some]
        dsimp only
        rw [sif_t (by omega), wi64_add1 (by omega)]
        obtain ⟨E, e1, e2⟩ := ih (r - 1) (a + 1) p T (by omega) (by omega) (by omega) (by omega) (by omega) (by omega)
        refine ⟨E, e1, ?_⟩
        have : hB r = r := by unfold hB; rw [if_pos (by omega)]
        have : hB (r - 1) = r - 1 := by unfold hB; rw [if_pos (by omega)]
        omega
      · have hmt : Mt l a d n := hM.resolve_left (by omega)
        obtain ⟨E, e1, e2, e3, e4, e5, _⟩ := lz_step (T := T) hl hn hp hlt (by omega) (by omega) h130 hmt em
        have hEl := e4 (by omega)
        rw [e5]
        obtain ⟨E2, f1, f2⟩ := ih (r - n) (a + n) (a + n) (T ++ E ++ (((n : Int) + 125) :: leB d 2)) (by omega) (by omega) (by omega) (Nat.le_refl _) (by omega) (by simp [leB_len]; omega)
        refine ⟨E2, f1, ?_⟩
        have hs := hB_step (r := r) (n := n) (by omega) (by omega)
        simp only [List.length_append, List.length_cons, leB_len] at f2
        omega
    · obtain ⟨E, e1, e2, e3, e4, _⟩ := lz_end hl hn hp (by omega) (T := T) (by omega)
      exact ⟨T ++ E, e1, by have := e4 (by omega); rw [List.length_append]; omega⟩
theorem hB_le {r : Nat} (h : r ≤ 512) : hB r ≤ 18 := by
  unfold hB
  split <;> omega
theorem lz_early {l : List Int} {k : Nat} (hl : inB l) (hn : l.length ≤ 512) (hkl : k ≤ l.length) (hP : Per l k) : ∀ (f a p : Nat) (T : List Int), k - a ≤ f → a ≤ k → p ≤ a → T.length ≤ 2 * p →
    ∃ E, impl_lzEncode_l4 (toB l) (p : Int) (a : Int) T = some (toB E) ∧ E.length ≤ 2 * k + 20 := by
  have hk8 := hP.2.1
  intro f
  induction f with
  | zero =>
    intro a p T hf ha hp hT
    obtain ⟨E, e1, e2⟩ := lz_late hl (by omega) hP (l.length - a) (l.length - a) a p T (Nat.le_refl _) (by omega) (by omega) hp (by omega) (by omega)
    have := hB_le (r := l.length - a) (by omega)
    exact ⟨E, e1, by omega⟩
  | succ f ih =>
    intro a p T hf ha hp hT
    by_cases hak : a = k
    · obtain ⟨E, e1, e2⟩ := lz_late hl (by omega) hP (l.length - a) (l.length - a) a p T (Nat.le_refl _) (by omega) (by omega) hp (by omega) (by omega)
      have := hB_le (r := l.length - a) (by omega)
      exact ⟨E, e1, by omega⟩
    · obtain ⟨n, d, em, h130, hM, _⟩ := impl_matchAt_some l hl (by omega) a (by omega)
      by_cases h3 : n < 3
      · rw [impl_lzEncode_l4_eq, toB_size, sif_t (by omega), em, sbind_some]
        dsimp only
        rw [sif_t (by omega), wi64_add1 (by omega)]
        exact ih (a + 1) p T (by omega) (by omega) (by omega) hT
      · have hmt : Mt l a d n := hM.resolve_left (by omega)
        have hL := hmt.2.2.1
        obtain ⟨E, e1, e2, e3, e4, e5, _⟩ := lz_step (T := T) hl (by omega) hp (by omega) (by omega) (by omega) h130 hmt em
        rw [e5]
        have hTl : (T ++ E ++ (((n : Int) + 125) :: leB d 2)).length ≤ 2 * a + 3 := by simp only [List.length_append, List.length_cons, leB_len]; omega
        by_cases hc : a + n ≤ k
        · exact ih (a + n) (a + n) _ (by omega) hc (Nat.le_refl _) (by omega)
        · obtain ⟨E2, f1, f2⟩ := lz_late hl (by omega) hP (l.length - (a + n)) (l.length - (a + n)) (a + n) (a + n) (T ++ E ++ (((n : Int) + 125) :: leB d 2)) (Nat.le_refl _) (by omega) (by omega) (Nat.le_refl _) (by omega) (by omega)
          have := hB_le (r := l.length - (a + n)) (by omega)
          exact ⟨E2, f1, by omega⟩
theorem lz_short {l : List Int} {k : Nat} (hl : inB l) (hn : l.length ≤ 512) (hkl : k ≤ l.length) (hP : Per l k) {E : List Int} (he : impl_LzEncode (toB l) = some (toB E)) : E.length ≤ 2 * k + 20 := by
  obtain ⟨E2, e1, e2⟩ := lz_early hl hn hkl hP k 0 0 [] (by omega) (by omega) (by omega) (by simp)
  rw [impl_LzEncode_eq, toB_size, sif_f (by omega), impl_lzEncode_eq, show impl_lzEncode_l4 (toB l) 0 0 [] = _ from e1, sbind_some] at he
  have := congrArg ByteArray.size (Option.some.inj he)
  rw [toB_size, toB_size] at this
  omega
/-! FnLzShort -/
def bD : Nat → Nat
  | 0 => 100000
  | k + 1 => bD k / 2 - 100
theorem bD_le : ∀ k, bD k ≤ 100000
  | 0 => Nat.le_refl _
  | k + 1 => by have := bD_le k; simp only [bD]; omega
theorem bD_ge (k : Nat) (h : k ≤ 6) : 1000 ≤ bD k := by
  have : k = 0 ∨ k = 1 ∨ k = 2 ∨ k = 3 ∨ k = 4 ∨ k = 5 ∨ k = 6 := by omega
  rcases this with rfl | rfl | rfl | rfl | rfl | rfl | rfl <;> decide
def DataOk (c : List Int) (o : Option (ByteArray × List Int × Int × Int)) : Prop := ∃ m a s, o = some (toB m, c, a, s) ∧ inB m ∧ m.length ≤ 100000
theorem data_end (c out : List Int) (hc : inB c) (ho : inB out) (hl : out.length ≤ 100000) (at_ seed : Int) (h0 : 0 ≤ at_) (h1 : at_ ≤ 4000000000) : DataOk c (spec_l18DrawData_wd_l3 0 c at_ seed out) := by
  have e500 : (500 : Int).toNat = 500 := rfl
  have end2 : ∀ (a s : Int), 0 ≤ a → a ≤ 4100000000 → DataOk c (sif (decide ((out.length : Int) > 1200))
       (sbind (spec_l00Src_pick_wd 4 c a s) fun r1 =>
        sif (le3 0 (wi64 (1098 + r1.1)) (out.length : Int)) (some (toB ((out.take ((wi64 (1098 + r1.1)).toNat)).drop 0), r1.2.1, r1.2.2.1, r1.2.2.2)) (none)) (some (toB out, c, a, s))) := fun a s ha hb => by
    by_cases h : (out.length : Int) > 1200
    · obtain ⟨x, a1, s1, e1, x0, x1, _, p1, q1⟩ := srcPick_some 4 c a s hc ha (by omega) (by omega)
      have := x1 (by omega)
      rw [sif_t h, e1, sbind_some]
      dsimp only
      rw [wi64_id (by omega) (by omega), sif_pos (le3_ok (by omega) (by omega)), List.drop_zero]
      exact ⟨_, _, _, rfl, inB_take ho _, by rw [List.length_take]; omega⟩
    · rw [sif_f h]; exact ⟨_, _, _, rfl, ho, hl⟩
  rw [spec_l18DrawData_wd_l3_eq, sif_f (by omega)]
  by_cases h : (out.length : Int) > 500
  · obtain ⟨b, a1, s1, e1, p1, q1⟩ := srcOne_some 8 c at_ seed hc h0 (by omega) (by omega)
    rw [sif_t h, e1, sbind_some]
    cases b with
    | false =>
      dsimp only
      rw [Bool.not_false, sif_true, sif_pos (le3_ok (by omega) (by omega)), List.drop_zero]
      exact ⟨_, _, _, rfl, inB_take ho _, by rw [List.length_take]; omega⟩
    | true => exact end2 a1 s1 (by omega) (by omega)
  · rw [sif_f h]; exact end2 at_ seed h0 (by omega)
theorem data_l14 (c : List Int) (k b at_ seed : Int) (n : Nat) : ∀ out : List Int, out.length + n ≤ 100000 → spec_l18DrawData_wd_l14 k b (n : Int) c at_ seed out = spec_l18DrawData_wd_l3 (wi64 (k - 1)) c at_ seed (out ++ List.replicate n b) := by
  induction n with
  | zero => intro out h; rw [spec_l18DrawData_wd_l14_eq, sif_f (by omega), List.replicate_zero, List.append_nil]
  | succ n ih =>
    intro out h
    rw [spec_l18DrawData_wd_l14_eq, sif_t (by omega), sif_pos (room_ok (by omega)), wi64_id (by omega) (by omega), show ((n + 1 : Nat) : Int) - 1 = (n : Int) by omega, ih _ (by simp; omega), List.append_assoc, List.singleton_append, List.replicate_succ]
theorem data_l20 (c : List Int) (k at_ seed : Int) (u : List Int) (hu : inB u) (hul : u.length ≤ 10) (n : Nat) : ∀ out : List Int, inB out → out.length + 10 * n ≤ 100000 → ∃ out', inB out' ∧ out'.length ≤ out.length + 10 * n ∧ spec_l18DrawData_wd_l20 k (toB u) (n : Int) c at_ seed out = spec_l18DrawData_wd_l3 (wi64 (k - 1)) c at_ seed out' := by
  induction n with
  | zero => intro out ho h; rw [spec_l18DrawData_wd_l20_eq, sif_f (by omega)]; exact ⟨out, ho, by omega, rfl⟩
  | succ n ih =>
    intro out ho h
    rw [spec_l18DrawData_wd_l20_eq, sif_t (by omega), ofB_toB hu, sif_pos (room_ok (by omega)), wi64_id (by omega) (by omega), show ((n + 1 : Nat) : Int) - 1 = (n : Int) by omega]
    obtain ⟨o, h1, h2, h3⟩ := ih (out ++ u) (inB_append ho hu) (by rw [List.length_append]; omega)
    exact ⟨o, h1, by rw [List.length_append] at h2; omega, h3⟩
theorem data_l3 (c : List Int) (hc : inB c) (k : Nat) : ∀ (out : List Int) (at_ seed : Int), k ≤ 6 → inB out → out.length ≤ bD k → 0 ≤ at_ → at_ ≤ 1000000 - 100000 * k → DataOk c (spec_l18DrawData_wd_l3 (k : Int) c at_ seed out) := by
  induction k with
  | zero => intro out at_ seed _ ho hl h0 h1; exact data_end c out hc ho hl at_ seed h0 (by omega)
  | succ k ih =>
    intro out at_ seed hk ho hl h0 h1
    have hb := bD_le k
    have hg := bD_ge k (by omega)
    simp only [bD] at hl
    have ek : wi64 (((k + 1 : Nat) : Int) - 1) = (k : Int) := by rw [wi64_id (by omega) (by omega)]; omega
    obtain ⟨x, a1, s1, e1, x0, x1, _, p1, q1⟩ := srcPick_some 4 c at_ seed hc h0 (by omega) (by omega)
    rw [spec_l18DrawData_wd_l3_eq, sif_t (by omega), e1, sbind_some]
    dsimp only
    cases (x == 0) with
    | true =>
      obtain ⟨l, a2, s2, e2, g1, g2, g3, g4⟩ := srcWord_some 12 c a1 s1 hc (by omega) (by omega) (by omega)
      rw [sif_true, e2, sbind_some]
      dsimp only
      rw [ofB_toB g1, sif_pos (room_ok (by omega)), ek]
      exact ih _ _ _ (by omega) (inB_append ho g1) (by rw [List.length_append]; omega) (by omega) (by omega)
    | false =>
      rw [sif_false]
      cases (x == 1) with
      | true =>
        obtain ⟨y, s2, e2, y0, y1⟩ := srcNext_some c a1 s1 hc (by omega) (by omega)
        obtain ⟨z, a3, s3, e3, z0, z1, _, p3, q3⟩ := srcPick_some 40 c (a1 + 1) s2 hc (by omega) (by omega) (by omega)
        have := z1 (by omega)
        obtain ⟨n, rfl⟩ : ∃ n : Nat, z = n := ⟨z.toNat, by omega⟩
        rw [sif_true, e2, sbind_some]
        dsimp only
        rw [e3, sbind_some]
        dsimp only
        rw [wi64_id (n := 1 + (n : Int)) (by omega) (by omega), show (1 + (n : Int)) = ((n + 1 : Nat) : Int) by omega, data_l14 c _ _ _ _ (n + 1) out (by omega), ek]
        exact ih _ _ _ (by omega) (inB_append ho (fun w hw => by rw [(List.mem_replicate.1 hw).2]; exact wu8_inB y)) (by rw [List.length_append, List.length_replicate]; omega) (by omega) (by omega)
      | false =>
        rw [sif_false]
        cases (x == 2) with
        | true =>
          obtain ⟨l, a2, s2, e2, g1, g2, g3, g4⟩ := srcWord_some 5 c a1 s1 hc (by omega) (by omega) (by omega)
          obtain ⟨z, a3, s3, e3, z0, z1, _, p3, q3⟩ := srcPick_some 20 c a2 s2 hc (by omega) (by omega) (by omega)
          have := z1 (by omega)
          obtain ⟨n, rfl⟩ : ∃ n : Nat, z = n := ⟨z.toNat, by omega⟩
          rw [sif_true, e2, sbind_some]
          dsimp only
          rw [e3, sbind_some]
          dsimp only
          -- the unit is short: 10 n may be too much for the measure, so it's bounded by its own length
          have hn4 : l.length ≤ 4 := by omega
          have key : ∀ (n : Nat) (out : List Int), inB out → out.length + 4 * n ≤ 100000 → ∃ out', inB out' ∧ out'.length ≤ out.length + 4 * n ∧ spec_l18DrawData_wd_l20 ((k + 1 : Nat) : Int) (toB l) (n : Int) c a3 s3 out = spec_l18DrawData_wd_l3 (wi64 (((k + 1 : Nat) : Int) - 1)) c a3 s3 out' := by
            intro n
            induction n with
            | zero => intro out ho h; rw [spec_l18DrawData_wd_l20_eq, sif_f (by omega)]; exact ⟨out, ho, by omega, rfl⟩
            | succ n ih =>
              intro out ho h
              rw [spec_l18DrawData_wd_l20_eq, sif_t (by omega), ofB_toB g1, sif_pos (room_ok (by omega)), wi64_id (by omega) (by omega), show ((n + 1 : Nat) : Int) - 1 = (n : Int) by omega]
              obtain ⟨o, h1, h2, h3⟩ := ih (out ++ l) (inB_append ho g1) (by rw [List.length_append]; omega)
              exact ⟨o, h1, by rw [List.length_append] at h2; omega, h3⟩
          obtain ⟨o, h1, h2, h3⟩ := key n out ho (by omega)
          rw [h3, ek]
          exact ih _ _ _ (by omega) h1 (by omega) (by omega) (by omega)
        | false =>
          rw [sif_false]
          by_cases hp : (out.length : Int) > 0
          · obtain ⟨z, a3, s3, e3, z0, z1, _, p3, q3⟩ := srcPick_some (out.length : Int) c a1 s1 hc (by omega) (by omega) (by omega)
            have := z1 (by omega)
            rw [sif_t hp, e3, sbind_some]
            dsimp only
            rw [sif_pos (le3_ok (by omega) (by omega)), List.take_length, sif_pos (room_ok (by rw [List.length_drop]; omega)), ek]
            exact ih _ _ _ (by omega) (inB_append ho (inB_drop ho _)) (by rw [List.length_append, List.length_drop]; omega) (by omega) (by omega)
          · rw [sif_f hp, ek]
            exact ih _ _ _ (by omega) ho (by omega) (by omega) (by omega)
theorem E8Data_some (c : List Int) (hc : inB c) : ∃ m, spec_E8Data c = some (toB m) ∧ inB m ∧ m.length ≤ 512 := by
  obtain ⟨x, a1, s1, e1, x0, x1, _, p1, q1⟩ := srcPick_some 6 c 0 0 hc (by omega) (by omega) (by omega)
  have := x1 (by omega)
  obtain ⟨n, rfl⟩ : ∃ n : Nat, x = n := ⟨x.toNat, by omega⟩
  obtain ⟨m, a, s, e, h1, h2⟩ := data_l3 c hc n [] a1 s1 (by omega) (fun y hy => by cases hy) (Nat.zero_le _) (by omega) (by omega)
  rw [spec_E8Data_eq, spec_l00From_eq, sbind_some, spec_l18DrawData_wd_eq]
  dsimp only
  rw [e1, sbind_some]
  dsimp only
  rw [e, sbind_some]
  dsimp only
  rw [toB_size]
  by_cases h : (m.length : Int) > 512
  · rw [sif_t h, sif_pos (le3_ok (by omega) (by omega)), extract_toB, List.drop_zero]
    exact ⟨_, rfl, inB_take h1 _, by rw [List.length_take]; omega⟩
  · rw [sif_f h]; exact ⟨m, rfl, h1, by omega⟩
theorem rep_get (u : List Int) (hk : 1 ≤ u.length) : ∀ (j i : Nat), i < j * u.length → ((List.replicate j u).flatten)[i]? = u[i % u.length]? := by
  intro j
  induction j with
  | zero => intro i h; omega
  | succ j ih =>
    intro i h
    rw [List.replicate_succ, List.flatten_cons]
    rcases Nat.lt_or_ge i u.length with h' | h'
    · rw [List.getElem?_append_left h', Nat.mod_eq_of_lt h']
    · rw [List.getElem?_append_right h', ih (i - u.length) (by rw [Nat.succ_mul] at h; omega), ← Nat.mod_eq_sub_mod h']
theorem rep_len (u : List Int) (j : Nat) : ((List.replicate j u).flatten).length = j * u.length := by simp
theorem rep_per (u : List Int) (hk : 1 ≤ u.length) (h8 : u.length ≤ 8) (j : Nat) : Per ((List.replicate j u).flatten) u.length := by
  refine ⟨hk, h8, fun i h1 h2 => ?_⟩
  rw [rep_len] at h2
  rw [rep_get u hk j i h2, rep_get u hk j (i - u.length) (by omega), ← Nat.mod_eq_sub_mod h1]
theorem rep_in (u : List Int) (hu : inB u) (j : Nat) : inB ((List.replicate j u).flatten) := fun x hx => by
  obtain ⟨l, h1, h2⟩ := List.mem_flatten.1 hx
  rw [(List.mem_replicate.1 h1).2] at h2
  exact hu x h2
theorem law14 (more : List Int) (hm : inB more) (k : Nat) (h1 : 1 ≤ k) (h8 : k ≤ 8) (hk : k ≤ more.length) (hn : more.length ≤ 1048576) : ∀ (f j : Nat), 512 - j * k ≤ f → j * k ≤ 512 → laws_FnLzShort_l14 more (k : Int) ((List.replicate j (more.take k)).flatten) = some true := by
  have hu : (more.take k).length = k := by rw [List.length_take]; omega
  have fin : ∀ j, j * k ≤ 512 → 512 < j * k + k → (sbind (impl_LzEncode (toB ((List.replicate j (more.take k)).flatten))) fun r1 =>
      sbind (impl_LzDecode r1) fun r2 =>
      sif (r2.2)
       (sif (seq r2.1 (toB ((List.replicate j (more.take k)).flatten)))
         (some (decide ((r1.size : Int) ≤ wi64 ((wi64 ((wi64 (2 * (k : Int))) + 10)) + (wi64 (3 * (wi64 ((wi64 (Int.tdiv (((List.replicate j (more.take k)).flatten).length : Int) 130)) + 1)))))))) (some false)) (some false)) = some true := fun j h2 h3 => by
    have hlen := rep_len (more.take k) j
    rw [hu] at hlen
    have hin := rep_in (more.take k) (inB_take hm k) j
    have hP := rep_per (more.take k) (by omega) (by omega) j
    rw [hu] at hP
    generalize (List.replicate j (more.take k)).flatten = l at hlen hin hP
    obtain ⟨E, e1, e2, e3, e4⟩ := lz_encode_some hin (by omega)
    have hs := lz_short hin (by omega) (by omega) hP e1
    rw [e1, sbind_some, e4, sbind_some]
    dsimp only
    rw [sif_true, seq_self, sif_true, toB_size, Int.tdiv_eq_ediv_of_nonneg (by omega)]
    have e : (l.length : Int) / 130 = 3 := by omega
    rw [e, wi64_id (n := 3) (by omega) (by omega), wi64_id (n := 3 + 1) (by omega) (by omega), wi64_id (n := 3 * (3 + 1)) (by omega) (by omega), wi64_id (n := 2 * (k : Int)) (by omega) (by omega), wi64_id (n := 2 * (k : Int) + 10) (by omega) (by omega), wi64_id (by omega) (by omega), decide_eq_true (by omega)]
  intro f
  induction f with
  | zero =>
    intro j h2 h3
    have hlen := rep_len (more.take k) j
    rw [hu] at hlen
    rw [laws_FnLzShort_l14_eq, hlen, wi64_id (by omega) (by omega), sif_f (by omega)]
    have := fin j h3 (by omega)
    rw [hlen] at this
    exact this
  | succ f ih =>
    intro j h2 h3
    have hlen := rep_len (more.take k) j
    rw [hu] at hlen
    by_cases h : j * k + k ≤ 512
    · have ea : (List.replicate j (more.take k)).flatten ++ more.take k = (List.replicate (j + 1) (more.take k)).flatten := by
        rw [List.replicate_succ', List.flatten_append]; simp
      rw [laws_FnLzShort_l14_eq, hlen, wi64_id (by omega) (by omega), sif_t (by omega), sif_pos (le3_ok (by omega) (by omega)), Int.toNat_natCast, List.drop_zero, hu, sif_pos (room_ok (by omega)), ea]
      exact ih (j + 1) (by rw [Nat.succ_mul]; omega) (by rw [Nat.succ_mul]; omega)
    · rw [laws_FnLzShort_l14_eq, hlen, wi64_id (by omega) (by omega), sif_f (by omega)]
      have := fin j h3 (by omega)
      rw [hlen] at this
      exact this
theorem pure_FnLzShort (code : List Int) (more : List Int) (O0 : code.length ≤ maxLen ∧ code.length * 1 ≤ 140737488351232 ∧ ∀ e_ ∈ code, (Lit.int .u8 e_).wf = true) (O1 : more.length ≤ maxLen ∧ more.length * 1 ≤ 140737488351232 ∧ ∀ e_ ∈ more, (Lit.int .u8 e_).wf = true) : laws_FnLzShort code more = some true := by
  have hc : inB code := fun x hx => wf8 (O0.2.2 x hx)
  have hm : inB more := fun x hx => wf8 (O1.2.2 x hx)
  rw [laws_FnLzShort_eq]
  by_cases h1 : (code.length : Int) > 1048576
  · rw [sif_t h1]
  · rw [sif_f h1]
    by_cases h2 : (more.length : Int) > 1048576
    · rw [sif_t h2]
    · obtain ⟨m, em, m1, m2⟩ := E8Data_some code hc
      obtain ⟨E, e1, e2, e3, e4⟩ := lz_encode_some m1 (by omega)
      rw [sif_f h2, em, sbind_some, e1, sbind_some, e4, sbind_some]
      dsimp only
      rw [Bool.not_true, sif_false, seq_self, Bool.not_true, sif_false, toB_size, toB_size, wi64_id (by omega) (by omega), sif_f (by omega)]
      by_cases h8 : (more.length : Int) > 8
      · rw [sif_t h8]
        exact law14 more hm 8 (by omega) (by omega) (by omega) (by omega) 512 0 (by omega) (by omega)
      · rw [sif_f h8]
        by_cases h0 : more.length = 0
        · rw [h0]; rfl
        · rw [show ((more.length : Int) == 0) = false by rw [beq_eq_false_iff_ne]; omega, sif_false]
          exact law14 more hm more.length (by omega) (by omega) (Nat.le_refl _) (by omega) 512 0 (by omega) (by omega)
end Go.Ve.X
