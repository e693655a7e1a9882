/- What 'FnHeaderText' comes to, in plain words over numbers, texts and lists: each function that it reaches answers what is told; put together, the law answers true. No condition but the sizes that come in. -/
import Derived.Test.YtlcbbiiohhplfabEqFnHeaderText
namespace Go.Ve.X
open Go.Ve
set_option linter.all false
set_option maxRecDepth 100000

/-! bytesL -/
theorem bidx_ofB (s : ByteArray) (i : Int) : bidx s i = idx (Ve.ofB s) i := by
  unfold bidx idx
  split
  · unfold Ve.ofB
    rw [List.getElem?_map]
    congr 1
    rw [Array.getElem?_toList, getElem?_def, getElem?_def]
    rfl
  · rfl
def inB (l : List Int) : Prop := ∀ x ∈ l, 0 ≤ x ∧ x ≤ 255
theorem ofB_inB (s : ByteArray) : inB (Ve.ofB s) := by
  intro x hx
  unfold Ve.ofB at hx
  obtain ⟨b, _, rfl⟩ := List.mem_map.1 hx
  have := b.toNat_lt
  omega
theorem toB_ofB (s : ByteArray) : Ve.toB (Ve.ofB s) = s := by
  unfold Ve.toB Ve.ofB
  rw [List.map_map]
  have : ((fun n : Int => UInt8.ofNat n.toNat) ∘ fun b : UInt8 => (b.toNat : Int)) = id := by funext b; simp
  rw [this, List.map_id]
theorem ofB_toB {l : List Int} (h : inB l) : Ve.ofB (Ve.toB l) = l := by
  unfold Ve.toB Ve.ofB
  simp only [List.map_map]
  conv => rhs; rw [← List.map_id l]
  refine List.map_congr_left (fun x hx => ?_)
  have := h x hx
  simp only [Function.comp, id]
  rw [UInt8.toNat_ofNat']
  omega
theorem bits_and_u64 (a : Int) : 0 ≤ bits .and .u64 a 255 ∧ bits .and .u64 a 255 ≤ 255 := by
  have h : ∀ x : BitVec 64, (x &&& 255#64).toNat ≤ 255 := fun x => by rw [BitVec.toNat_and]; exact Nat.and_le_right
  have := h (BitVec.ofInt 64 a)
  have e : bits .and .u64 a 255 = wu64 (((BitVec.ofInt 64 a) &&& 255#64).toNat : Int) := rfl
  rw [e, wu64_id (by omega) (by omega)]
  omega
/-! leL -/
def leN : List Int → Int
  | [] => 0
  | b :: r => b + 256 * leN r
theorem leN_ge : ∀ {l : List Int}, inB l → 0 ≤ leN l
  | [], _ => by simp [leN]
  | b :: r, h => by
    have := leN_ge (l := r) (fun x hx => h x (by simp [hx])); have := h b (by simp); simp only [leN]; omega
theorem leN_lt : ∀ {l : List Int}, inB l → leN l < 256 ^ l.length
  | [], _ => by simp [leN]
  | b :: r, h => by
    have := leN_lt (l := r) (fun x hx => h x (by simp [hx])); have := h b (by simp)
    simp only [leN, List.length_cons, Int.pow_succ]; omega
theorem leN_append : ∀ (a b : List Int), leN (a ++ b) = leN a + 256 ^ a.length * leN b
  | [], b => by simp [leN]
  | x :: a, b => by
    simp only [List.cons_append, leN, leN_append a b, List.length_cons, Int.pow_succ]
    rw [Int.mul_add, Int.mul_comm (256 ^ a.length) 256, Int.mul_assoc]; omega
theorem inB_take {l : List Int} (h : inB l) (n : Nat) : inB (l.take n) := fun x hx => h x (List.mem_of_mem_take hx)
theorem inB_drop {l : List Int} (h : inB l) (n : Nat) : inB (l.drop n) := fun x hx => h x (List.mem_of_mem_drop hx)
theorem leN_drop {l : List Int} (h : inB l) : ∀ n, leN (l.drop n) ≤ leN l := by
  induction l with
  | nil => intro n; simp
  | cons b r ih =>
    intro n
    cases n with
    | zero => simp
    | succ n =>
      have h1 := ih (fun x hx => h x (by simp [hx])) n
      have h2 := leN_ge (l := r) (fun x hx => h x (by simp [hx]))
      have h3 := h b (by simp)
      simp only [List.drop_succ_cons, leN]; omega
def leB (n : Int) (k : Nat) : List Int := (List.range k).map (fun i => wu8 (Int.fdiv n (2 ^ (8 * i))))
theorem leB_len (n : Int) (k : Nat) : (leB n k).length = k := by simp [leB]
theorem leB_in (n : Int) (k : Nat) : inB (leB n k) := by
  intro x hx
  obtain ⟨i, _, rfl⟩ := List.mem_map.1 hx
  rw [wu8_def]; omega
theorem fdiv_shift (n : Int) (i : Nat) : Int.fdiv n (2 ^ (8 * (i + 1))) = Int.fdiv (Int.fdiv n 256) (2 ^ (8 * i)) := by
  rw [Int.fdiv_eq_ediv_of_nonneg _ (Int.pow_nonneg (by decide)), Int.fdiv_eq_ediv_of_nonneg _ (Int.pow_nonneg (by decide)), Int.fdiv_eq_ediv_of_nonneg _ (by decide)]
  rw [Int.ediv_ediv_of_nonneg (by decide)]
  congr 1
  rw [Nat.mul_add, Int.pow_add, Int.mul_comm]; rfl
theorem leB_succ (n : Int) (k : Nat) : leB n (k + 1) = wu8 n :: leB (Int.fdiv n 256) k := by
  unfold leB
  rw [List.range_succ_eq_map, List.map_cons, List.map_map]
  congr 1
  · simp [Int.fdiv_one]
  · refine List.map_congr_left (fun i _ => ?_)
    simp only [Function.comp]
    rw [Nat.succ_eq_add_one, fdiv_shift]
theorem leN_leB : ∀ (k : Nat) (n : Int), 0 ≤ n → n < 256 ^ k → leN (leB n k) = n
  | 0, n, h0, h1 => by simp at h1; simp [leB, leN]; omega
  | k + 1, n, h0, h1 => by
    rw [Int.pow_succ] at h1
    rw [leB_succ, leN, Int.fdiv_eq_ediv_of_nonneg _ (by decide), leN_leB k (n / 256) (by omega) (by omega), wu8_def]
    omega
theorem or_add {x b k : Nat} (h : x < 2 ^ k) : x ||| (b * 2 ^ k) = x + b * 2 ^ k := by
  have := Nat.shiftLeft_add_eq_or_of_lt h b
  rw [Nat.shiftLeft_eq] at this
  rw [Nat.or_comm, ← this, Nat.add_comm]
theorem bits_or_nat {x y : Nat} (hx : x < 18446744073709551616) (hy : y < 18446744073709551616) : bits .or .u64 (x : Int) (y : Int) = ((x ||| y : Nat) : Int) := by
  have e : bits .or .u64 (x : Int) (y : Int) = wu64 (((BitVec.ofInt 64 (x : Int)) ||| (BitVec.ofInt 64 (y : Int))).toNat : Int) := rfl
  have hxy : x ||| y < 2 ^ 64 := Nat.or_lt_two_pow hx hy
  rw [e, BitVec.toNat_or, BitVec.ofInt_natCast, BitVec.ofInt_natCast, BitVec.toNat_ofNat, BitVec.toNat_ofNat, Nat.mod_eq_of_lt hx, Nat.mod_eq_of_lt hy, wu64_id (by omega) (by omega)]
theorem or_step {n b : Int} {i : Nat} (hi : i ≤ 7) (h0 : 0 ≤ n) (h1 : n < 256 ^ i) (b0 : 0 ≤ b) (b1 : b ≤ 255) : bits .or .u64 n (wu64 ((wu64 b) * 2 ^ (min (wi64 (8 * (i : Int))).toNat 64))) = n + 256 ^ i * b := by
  rw [wi64_id (by omega) (by omega), wu64_id (n := b) (by omega) (by omega)]
  have hm : min (8 * (i : Int)).toNat 64 = 8 * i := by omega
  rw [hm]
  have hp : (256 : Int) ^ i = 2 ^ (8 * i) := by rw [Int.pow_mul]; rfl
  have hpn : ((2 ^ (8 * i) : Nat) : Int) = 2 ^ (8 * i) := by push_cast; rfl
  have hle : (2 : Nat) ^ (8 * i) ≤ 2 ^ 56 := Nat.pow_le_pow_right (by decide) (by omega)
  obtain ⟨bn, rfl⟩ : ∃ bn : Nat, b = bn := ⟨b.toNat, by omega⟩
  obtain ⟨nn, rfl⟩ : ∃ nn : Nat, n = nn := ⟨n.toNat, by omega⟩
  rw [hp, ← hpn] at h1
  have hmul : bn * 2 ^ (8 * i) ≤ 255 * 2 ^ 56 := Nat.mul_le_mul (by omega) hle
  rw [hp, ← hpn, ← Int.natCast_mul, wu64_id (by omega) (by omega), bits_or_nat (by omega) (by omega), or_add (by omega)]
  push_cast
  rw [Int.mul_comm]
theorem wu8_and (m : Int) : wu8 (bits .and .i64 m 255) = wu8 m := by
  have e : bits .and .i64 m 255 = wi64 (((BitVec.ofInt 64 m) &&& 255#64).toNat : Int) := rfl
  have h : ∀ x : BitVec 64, (x &&& 255#64).toNat = x.toNat % 256 := fun x => by
    rw [BitVec.toNat_and]; exact Nat.and_two_pow_sub_one_eq_mod x.toNat 8
  rw [e, h, BitVec.toNat_ofInt, wi64_id (by omega) (by omega), wu8_def, wu8_def]
  omega
theorem toB_append (a b : List Int) : toB a ++ toB b = toB (a ++ b) := by
  unfold toB
  apply ByteArray.ext
  simp
theorem joinsT {a b : List Int} (h : a.length + b.length ≤ 4611686018427387904) : joins (toB a) (toB b) = true := joins_ok (by rw [toB_size, toB_size]; omega)
theorem extract_toB (l : List Int) (i j : Nat) : (toB l).extract i j = toB ((l.take j).drop i) := by
  unfold toB
  apply ByteArray.ext
  simp [ByteArray.data_extract, List.map_take, List.map_drop, List.drop_take]
theorem bidx_toB {l : List Int} (h : inB l) {i : Int} (h0 : 0 ≤ i) : bidx (toB l) i = l[i.toNat]? := by rw [bidx_ofB, ofB_toB h, idx_int h0]
theorem toB_inj {a b : List Int} (ha : inB a) (hb : inB b) (h : toB a = toB b) : a = b := by rw [← ofB_toB ha, h, ofB_toB hb]
theorem seq_toB {a b : List Int} (ha : inB a) (hb : inB b) : seq (toB a) (toB b) = decide (a = b) := by
  rw [seq_eq, Bool.eq_iff_iff]
  simp only [decide_eq_true_eq]
  exact ⟨toB_inj ha hb, fun h => by rw [h]⟩
/-! superL -/
theorem spec_l00In_inr (n lo hi : Int) : spec_l00In n lo hi = some (inr n lo hi) := by rw [spec_l00In_eq, inr_sif]
theorem impl_within_inr (n lo hi : Int) : impl_within n lo hi = some (inr n lo hi) := by rw [impl_within_eq, inr_sif]
def vS (b l q t : Int) : Bool := inr b 16 256 && (inr l 8 64 && (decide (l ≤ b - 4) && (inr q 0 1000000000000 && inr t 0 1000000000000)))
theorem vS_iff {b l q t : Int} : vS b l q t = true ↔ (16 ≤ b ∧ b ≤ 256) ∧ (8 ≤ l ∧ l ≤ 64) ∧ l ≤ b - 4 ∧ (0 ≤ q ∧ q ≤ 1000000000000) ∧ (0 ≤ t ∧ t ≤ 1000000000000) := by
  unfold vS
  simp only [Bool.and_eq_true, inr_iff, decide_eq_true_eq]
def halfI (b l q t : Int) : List Int := [65, 82, 82, 83] ++ leB 1 1 ++ leB b 2 ++ leB l 2 ++ leB q 8 ++ leB t 8
def encI (b l q t : Int) : List Int := (halfI b l q t ++ List.replicate 7 0) ++ (halfI b l q t ++ List.replicate 7 0)
theorem halfI_len (b l q t : Int) : (halfI b l q t).length = 25 := by simp [halfI, leB_len]
theorem encI_len (b l q t : Int) : (encI b l q t).length = 64 := by simp [encI, halfI_len]
theorem inB_append {a b : List Int} (ha : inB a) (hb : inB b) : inB (a ++ b) := fun x hx => (List.mem_append.1 hx).elim (ha x) (hb x)
theorem halfI_in (b l q t : Int) : inB (halfI b l q t) := by
  unfold halfI
  refine inB_append (inB_append (inB_append (inB_append (inB_append ?_ (leB_in _ _)) (leB_in _ _)) (leB_in _ _)) (leB_in _ _)) (leB_in _ _)
  unfold inB; decide
theorem zeros_in (n : Nat) : inB (List.replicate n 0) := fun x hx => by rw [(List.mem_replicate.1 hx).2]; omega
theorem encI_in (b l q t : Int) : inB (encI b l q t) := inB_append (inB_append (halfI_in _ _ _ _) (zeros_in 7)) (inB_append (halfI_in _ _ _ _) (zeros_in 7))
theorem impl_putBytes_some (n : Int) (k : Nat) (hk : k ≤ 8) : impl_putBytes n (k : Int) = some (toB (leB n k)) := by
  rw [impl_putBytes_eq, sif_pos (by rw [le3_ok (by omega) (by omega)]; exact room_ok (by omega)), Int.toNat_natCast, List.length_replicate]
  have := loop_to k (fun i out => impl_putBytes_l3 n (k : Int) (i : Int) out) (fun _ _ => some (toB (leB n k))) (fun i out => out = leB n i ++ List.replicate (k - i) 0) (fun out ho => by
      rw [impl_putBytes_l3_eq, sif_f (by omega), ho]; simp)
    (fun i out hi ho ih => by
      have hlen : out.length = k := by rw [ho, List.length_append, leB_len, List.length_replicate]; omega
      rw [impl_putBytes_l3_eq, sif_t (by omega), wi64_id (n := 8 * (i : Int)) (by omega) (by omega), sif_f (by omega), sif_pos (lt3_ok (by omega) (by omega)), wi64_add1 (by omega), Int.toNat_natCast]
      refine ih _ ?_
      rw [ho, show min (8 * (i : Int)).toNat 64 = 8 * i by omega]
      have e1 : k - i = (k - (i + 1)) + 1 := by omega
      rw [e1, List.replicate_succ, List.set_append_right _ _ (by rw [leB_len]; exact Nat.le_refl _), leB_len, Nat.sub_self, List.set_cons_zero]
      unfold leB
      rw [List.range_succ, List.map_append, List.append_assoc]; rfl) 0 (List.replicate k 0) (by omega) (by simp [leB])
  simpa using this
theorem rep7 : repeatB (bs [0]) 7 = some (toB (List.replicate 7 0)) := by rfl
theorem bsA : bs [65, 82, 82, 83] = toB [65, 82, 82, 83] := rfl
/-! reading numbers -/
theorem impl_getBits_some (m : List Int) (hm : inB m) (h8 : m.length ≤ 8) : impl_getBits (toB m) = some (leN m) := by
  rw [impl_getBits_eq, toB_size]
  have := loop_to m.length (fun i n => impl_getBits_l3 (toB m) n (m.length : Int) (i : Int)) (fun _ _ => some (leN m)) (fun i n => n = leN (m.take i)) (fun n hn => by
      rw [impl_getBits_l3_eq, sif_f (by omega), hn, List.take_length])
    (fun i n hi hn ih => by
      have hb := hm _ (List.getElem_mem hi)
      have h0 := leN_ge (inB_take hm i)
      have h1 := leN_lt (inB_take hm i)
      rw [List.length_take, show min i m.length = i by omega] at h1
      rw [impl_getBits_l3_eq, sif_t (by omega), bidx_toB hm (by omega), Int.toNat_natCast, List.getElem?_eq_getElem hi, sbind_some, sif_f (by rw [wi64_id (by omega) (by omega)]; omega), or_step (by omega) (by omega) (by omega) hb.1 hb.2, wi64_add1 (by omega)]
      refine ih _ ?_
      rw [hn, List.take_succ_eq_append_getElem hi, leN_append, List.length_take, show min i m.length = i by omega]
      simp [leN]) 0 0 (by omega) rfl
  simpa using this
theorem impl_number_some (l : List Int) (hl : inB l) (k : Nat) (hk : k ≤ 8) (h : k ≤ l.length) (hn : l.length ≤ 1048576) (bad : Bool) : impl_decoder_number_w (k : Int) (toB l) bad = some (wi64 (leN (l.take k)), toB (l.drop k), bad) := by
  rw [impl_decoder_number_w_eq, impl_decoder_take_w_eq, impl_cut_eq, toB_size, sif_f (by omega), impl_within_inr, sbind_some, wi64_id (n := (l.length : Int) - k) (by omega) (by omega), show inr 0 0 ((l.length : Int) - k) = true by rw [inr_iff]; omega, Bool.not_true, sif_false, wi64_id (n := 0 + (k : Int)) (by omega) (by omega), sif_pos (le3_ok (by omega) (by omega)), sif_pos (le3_ok (by omega) (by omega)), sbind_some]
  dsimp only
  rw [Bool.not_true, sif_false, sif_pos (le3_ok (by omega) (by omega)), sbind_some]
  dsimp only
  have e1 : (0 + (k : Int)).toNat = k := by omega
  rw [e1, Int.toNat_natCast, extract_toB, extract_toB, List.take_length]
  have e2 : (0 : Int).toNat = 0 := rfl
  rw [e2, List.drop_zero, impl_getBits_some (l.take k) (inB_take hl k) (by rw [List.length_take]; omega), sbind_some]
theorem top_small {m : List Int} (hm : inB m) (h8 : m.length = 8) : (m[7]? : Option Int).getD 0 ≤ 127 → leN m ≤ 9223372036854775807 := by
  intro ht
  match m, h8 with
  | [a, b, c, d, e, f, g, h], _ =>
    have h0 := hm a (by simp); have h1 := hm b (by simp); have h2 := hm c (by simp); have h3 := hm d (by simp); have h4 := hm e (by simp); have h5 := hm f (by simp); have h6 := hm g (by simp)
    simp at ht
    simp only [leN]; omega
theorem top_big {m : List Int} (hm : inB m) (h8 : m.length = 8) : 127 < (m[7]? : Option Int).getD 0 → wi64 (leN m) < 0 := by
  intro ht
  match m, h8 with
  | [a, b, c, d, e, f, g, h], _ =>
    have h0 := hm a (by simp); have h1 := hm b (by simp); have h2 := hm c (by simp); have h3 := hm d (by simp); have h4 := hm e (by simp); have h5 := hm f (by simp); have h6 := hm g (by simp); have h7 := hm h (by simp)
    simp at ht
    have hN : leN [a, b, c, d, e, f, g, h] = a + 256 * (b + 256 * (c + 256 * (d + 256 * (e + 256 * (f + 256 * (g + 256 * (h + 256 * 0))))))) := rfl
    rw [wi64_def, if_pos (by omega)]; omega
/-! srcL -/
theorem srcNext_some (c : List Int) (at_ seed : Int) (hc : inB c) (h0 : 0 ≤ at_) (h1 : at_ ≤ 4611686018427387904) : ∃ x seed', spec_l00Src_next_wd c at_ seed = some (x, c, at_ + 1, seed') ∧ 0 ≤ x ∧ x ≤ 255 := by
  rw [spec_l00Src_next_wd_eq, wi64_id (n := at_ + 1) (by omega) (by omega)]
  by_cases h : at_ < (c.length : Int)
  · have hl : at_.toNat < c.length := by omega
    have hx := hc _ (List.getElem_mem hl)
    rw [sif_t h, idx_int h0, List.getElem?_eq_getElem hl, sbind_some, wi64_id (by omega) (by omega), sif_t (by omega)]
    exact ⟨_, _, rfl, hx.1, hx.2⟩
  · rw [sif_f h]
    by_cases h2 : at_ + 1 ≤ (c.length : Int)
    · rw [sif_t h2]; exact ⟨_, _, rfl, by omega, by omega⟩
    · rw [sif_f h2]
      refine ⟨_, _, rfl, ?_⟩
      obtain ⟨b1, b2⟩ := bits_and_u64 (Int.fdiv (wu64 ((wu64 ((wu64 (seed * 6364136223846793005)) + 0)) + 1442695040888963407)) (2 ^ 40))
      rw [wi64_id (by omega) (by omega)]
      exact ⟨b1, b2⟩
theorem srcPick_some (n : Int) (c : List Int) (at_ seed : Int) (hc : inB c) (h0 : 0 ≤ at_) (h1 : at_ ≤ 4611686018427387900) (hn : n ≤ 65536) : ∃ x at' seed', spec_l00Src_pick_wd n c at_ seed = some (x, c, at', seed') ∧ 0 ≤ x ∧ (1 ≤ n → x < n) ∧ (n ≤ 1 → x = 0) ∧ at_ ≤ at' ∧ at' ≤ at_ + 2 := by
  rw [spec_l00Src_pick_wd_eq]
  by_cases h : n ≤ 1
  · rw [sif_t h]; exact ⟨_, _, _, rfl, by omega, by omega, by omega, by omega, by omega⟩
  · obtain ⟨x, s1, e1, x0, x1⟩ := srcNext_some c at_ seed hc h0 (by omega)
    rw [sif_f h, e1, sbind_some]
    by_cases h2 : n > 200
    · obtain ⟨y, s2, e2, y0, y1⟩ := srcNext_some c (at_ + 1) s1 hc (by omega) (by omega)
      rw [sif_t h2]
      dsimp only
      rw [e2, sbind_some, sif_f (by omega), wi64_id (n := x * 256) (by omega) (by omega), wi64_id (n := x * 256 + y) (by omega) (by omega)]
      have m0 := Int.tmod_nonneg n (show 0 ≤ x * 256 + y by omega)
      have m1 := Int.tmod_lt_of_pos (x * 256 + y) (show 0 < n by omega)
      exact ⟨_, at_ + 1 + 1, s2, rfl, m0, fun _ => m1, by omega, by omega, by omega⟩
    · rw [sif_f h2, sif_f (by omega)]
      have m0 := Int.tmod_nonneg n x0
      have m1 := Int.tmod_lt_of_pos x (show 0 < n by omega)
      exact ⟨_, at_ + 1, s1, rfl, m0, fun _ => m1, by omega, by omega, by omega⟩
theorem wu8_inB (n : Int) : 0 ≤ wu8 n ∧ wu8 n ≤ 255 := by rw [wu8_def]; omega
theorem srcWord_loop (c : List Int) (hc : inB c) : ∀ (k : Nat) (at_ seed : Int) (out : List Int), 0 ≤ at_ → at_ + k ≤ 4611686018427387900 → inB out → out.length + k ≤ 65536 → ∃ l at' seed', spec_l00Src_word_wd_l3 (k : Int) c at_ seed out = some (toB l, c, at', seed') ∧ inB l ∧ l.length = out.length + k ∧ at_ ≤ at' ∧ at' ≤ at_ + k := by
  intro k
  induction k with
  | zero =>
    intro at_ seed out h0 h1 ho hl
    rw [spec_l00Src_word_wd_l3_eq, sif_f (by omega)]
    exact ⟨out, _, _, rfl, ho, by omega, by omega, by omega⟩
  | succ k ih =>
    intro at_ seed out h0 h1 ho hl
    obtain ⟨x, s1, e1, x0, x1⟩ := srcNext_some c at_ seed hc h0 (by omega)
    obtain ⟨l, a, s, e2, g1, g2, g3, g4⟩ := ih (at_ + 1) s1 (out ++ [wu8 x]) (by omega) (by omega) (fun y hy => by
      rcases List.mem_append.1 hy with hy | hy
      · exact ho y hy
      · rw [List.mem_singleton.1 hy]; exact wu8_inB x) (by simp; omega)
    rw [spec_l00Src_word_wd_l3_eq, sif_t (by omega), e1, sbind_some, sif_pos (room_ok (by omega)), wi64_id (by omega) (by omega), show ((k + 1 : Nat) : Int) - 1 = (k : Int) by omega]
    refine ⟨l, a, s, e2, g1, ?_, by omega, by omega⟩
    rw [g2]; simp; omega
theorem srcWord_some (n : Int) (c : List Int) (at_ seed : Int) (hc : inB c) (h0 : 0 ≤ at_) (hn : n ≤ 65536) (h1 : at_ ≤ 4611686018427000000) : ∃ l at' seed', spec_l00Src_word_wd n c at_ seed = some (toB l, c, at', seed') ∧ inB l ∧ (l.length = 0 ∨ (l.length : Int) < n) ∧ at_ ≤ at' ∧ at' ≤ at_ + 2 + 65536 := by
  rw [spec_l00Src_word_wd_eq]
  obtain ⟨x, a1, s1, e1, x0, x1, x2, a0, a2⟩ := srcPick_some n c at_ seed hc h0 (by omega) hn
  have hx : x < 65536 := by
    by_cases h : n ≤ 1
    · have := x2 h; omega
    · have := x1 (by omega); omega
  rw [e1, sbind_some]
  dsimp only
  obtain ⟨l, a, s, e2, g1, g2, g3, g4⟩ := srcWord_loop c hc x.toNat a1 s1 [] (by omega) (by omega) (fun y hy => by cases hy) (by simp; omega)
  have hxx : ((x.toNat : Nat) : Int) = x := by omega
  rw [hxx] at e2
  refine ⟨l, a, s, e2, g1, ?_, by omega, by omega⟩
  simp at g2
  by_cases h : n ≤ 1
  · have := x2 h; omega
  · have := x1 (by omega); omega
theorem toB_len (l : List Int) : (toB l).size = l.length := toB_size l
/-! srcM -/
theorem srcOne_some (n : Int) (c : List Int) (at_ seed : Int) (hc : inB c) (h0 : 0 ≤ at_) (h1 : at_ ≤ 4611686018427387900) (hn : n ≤ 65536) : ∃ b at' seed', spec_l00Src_one_wd n c at_ seed = some (b, c, at', seed') ∧ at_ ≤ at' ∧ at' ≤ at_ + 2 := by
  obtain ⟨x, a, s, e, _, _, _, a0, a1⟩ := srcPick_some n c at_ seed hc h0 h1 hn
  rw [spec_l00Src_one_wd_eq, e, sbind_some]
  exact ⟨_, _, _, rfl, a0, a1⟩
/-! srcA -/
theorem srcAmong_some (l : List Int) (hl0 : l ≠ []) (hl : l.length ≤ 65536) (c : List Int) (at_ seed : Int) (hc : inB c) (h0 : 0 ≤ at_) (h1 : at_ ≤ 4611686018427387900) : ∃ x at' seed', spec_l00Src_among_wdd l c at_ seed = some (x, c, at', seed') ∧ x ∈ l ∧ at_ ≤ at' ∧ at' ≤ at_ + 2 := by
  have hpos : 0 < l.length := List.length_pos_iff.2 hl0
  obtain ⟨x, a, s, e, x0, x1, _, a0, a1⟩ := srcPick_some (l.length : Int) c at_ seed hc h0 h1 (by omega)
  have hx := x1 (by omega)
  have hlt : x.toNat < l.length := by omega
  rw [spec_l00Src_among_wdd_eq, e, sbind_some]
  dsimp only
  rw [idx_int x0, List.getElem?_eq_getElem hlt, sbind_some]
  exact ⟨_, _, _, rfl, List.getElem_mem hlt, a0, a1⟩
/-! headerL -/
abbrev Msg := Int × Int × ByteArray
theorem inB_tail {x : Int} {r : List Int} (h : inB (x :: r)) : inB r := fun y hy => h y (by simp [hy])
theorem bs_nil : bs [] = toB [] := rfl
theorem byte_cons {x : Int} {r : List Int} (h : inB (x :: r)) (hn : r.length ≤ 1048000) (bad : Bool) : impl_decoder_byte_w (toB (x :: r)) bad = some (x, toB r, bad) := by
  have e : impl_decoder_number_w 1 (toB (x :: r)) bad = _ := impl_number_some (x :: r) h 1 (by omega) (by simp) (by simp; omega) bad
  have hx := h x (by simp)
  rw [impl_decoder_byte_w_eq, e, sbind_some]
  show some (wi64 (x + 256 * 0), toB r, bad) = _
  rw [wi64_id (by omega) (by omega)]
  congr 2; omega
theorem take_fail (l : List Int) (n : Int) (h0 : 0 ≤ n) (hn : (l.length : Int) < n) (h1 : n ≤ 1048576) (bad : Bool) : impl_decoder_take_w n (toB l) bad = some (bs [], toB l, true) := by
  rw [impl_decoder_take_w_eq, impl_cut_eq, toB_size, sif_f (by omega), impl_within_inr, sbind_some, wi64_id (by omega) (by omega), show inr 0 0 ((l.length : Int) - n) = false by rw [← Bool.not_eq_true, inr_iff]; omega, Bool.not_false, sif_true, sbind_some]
  dsimp only
  rw [Bool.not_false, sif_true]
theorem getBits_nil : impl_getBits (bs []) = some 0 := by
  rw [bs_nil, impl_getBits_some [] (fun x hx => by cases hx) (by simp)]; rfl
theorem number_fail (l : List Int) (n : Int) (h0 : 0 ≤ n) (hn : (l.length : Int) < n) (h1 : n ≤ 1048576) (bad : Bool) : impl_decoder_number_w n (toB l) bad = some (0, toB l, true) := by
  rw [impl_decoder_number_w_eq, take_fail l n h0 hn h1 bad, sbind_some]
  dsimp only
  rw [getBits_nil, sbind_some, wi64_id (by omega) (by omega)]
theorem byte_nil (bad : Bool) : impl_decoder_byte_w (toB []) bad = some (0, toB [], true) := by
  rw [impl_decoder_byte_w_eq, number_fail [] 1 (by omega) (by simp) (by omega) bad, sbind_some]
theorem take_ok (l : List Int) (n : Int) (h0 : 0 ≤ n) (hn : n ≤ l.length) (h1 : l.length ≤ 1048576) (bad : Bool) : impl_decoder_take_w n (toB l) bad = some (toB (l.take n.toNat), toB (l.drop n.toNat), bad) := by
  rw [impl_decoder_take_w_eq, impl_cut_eq, toB_size, sif_f (by omega), impl_within_inr, sbind_some, wi64_id (n := (l.length : Int) - n) (by omega) (by omega), show inr 0 0 ((l.length : Int) - n) = true by rw [inr_iff]; omega, Bool.not_true, sif_false, wi64_id (n := 0 + n) (by omega) (by omega), sif_pos (le3_ok (by omega) (by omega)), sif_pos (le3_ok (by omega) (by omega)), sbind_some]
  dsimp only
  rw [Bool.not_true, sif_false, sif_pos (le3_ok (by omega) (by omega)), extract_toB, extract_toB, List.take_length, show (0 + n).toNat = n.toNat by omega, show (0 : Int).toNat = 0 from rfl, List.drop_zero]
def okMsg (m : Msg) : Bool := inr m.1 1 9 && (inr m.2.1 0 255 && decide ((m.2.2.size : Int) ≤ 200))
def vH (k r : Int) (ms : List Msg) : Bool := inr k 1 3 && (inr r 0 1000 && (decide ((ms.length : Int) ≤ 24) && ms.all okMsg))
theorem impl_ValidHeader_some (k r : Int) (ms : List Msg) (hn : ms.length ≤ 1048576) : impl_ValidHeader k r ms = some (vH k r ms) := by
  have k1 : slices_ContainsFunc_simpl_Message_impl_Message_d_ValidHeader_1 ms = some (ms.any (fun m => !okMsg m)) := by
    rw [slices_ContainsFunc_simpl_Message_impl_Message_d_ValidHeader_1_eq, slices_IndexFunc_simpl_Message_impl_Message_d_ValidHeader_1_eq]
    refine find_any (find_loop ms _ (fun i => slices_IndexFunc_simpl_Message_impl_Message_d_ValidHeader_1_l2 ms (ms.length : Int) i) (by rw [slices_IndexFunc_simpl_Message_impl_Message_d_ValidHeader_1_l2_eq, sif_f (by omega)]) (fun i x hx hi => ?_))
    rw [slices_IndexFunc_simpl_Message_impl_Message_d_ValidHeader_1_l2_eq, sif_t (by omega), idx_some hx, sbind_some, impl_ValidHeader_1_eq, impl_messageOk_eq, impl_within_inr, sbind_some, impl_within_inr, sbind_some, sif_bool, sif_bool, sbind_some, sbind_some, wi64_add1 (by omega)]
    rfl
  rw [impl_ValidHeader_eq, impl_within_inr, sbind_some, impl_within_inr, sbind_some, k1, sbind_some, any_not_all ms okMsg _ (fun _ _ => rfl), Bool.not_not, sif_bool, sif_bool, sif_bool]; rfl
theorem spec_l14Ok_some (k r : Int) (ms : List Msg) (hn : ms.length ≤ 1048576) : spec_l14Ok k r ms = some (vH k r ms) := by
  rw [spec_l14Ok_eq, spec_l00In_inr, sbind_some, spec_l00In_inr, sbind_some]
  have := all_loop ms okMsg (fun i => spec_l14Ok_l4 (i : Int) k r ms) false (fun i x hx hi => by
    rw [spec_l14Ok_l4_eq, sif_t (by omega), idx_some hx, sbind_some, spec_l00In_inr, sbind_some, spec_l00In_inr, sbind_some, wi64_add1 (by omega), sif_not, sif_not]
    unfold okMsg
    have e : decide ((x.2.2.size : Int) > 200) = !decide ((x.2.2.size : Int) ≤ 200) := by rw [Bool.eq_iff_iff]; simp
    rw [e, sif_not]
    cases inr x.1 1 9 <;> cases inr x.2.1 0 255 <;> rfl)
  have h0 : spec_l14Ok_l4 0 k r ms = some (ms.all okMsg) := by
    refine Eq.trans this ?_
    rw [spec_l14Ok_l4_eq, sif_f (Int.lt_irrefl _), sif_bool, Bool.and_true]
  have e : decide ((ms.length : Int) > 24) = !decide ((ms.length : Int) ≤ 24) := by rw [Bool.eq_iff_iff]; simp
  rw [h0, e, sif_not, sif_not, sif_not, sif_bool, sif_bool, sif_bool]; rfl
theorem spec_ValidHeader_some (k r : Int) (ms : List Msg) (hn : ms.length ≤ 1048576) : spec_ValidHeader k r ms = some (vH k r ms) := by
  rw [spec_ValidHeader_eq, spec_l14Ok_some k r ms hn, sbind_some]
def encMsg (m : Msg) : List Int := leB m.1 1 ++ leB m.2.1 1 ++ leB (m.2.2.size : Int) 1 ++ ofB m.2.2
def encH (k r : Int) (ms : List Msg) : List Int := leB k 1 ++ leB r 2 ++ leB (ms.length : Int) 1 ++ ms.flatMap encMsg
theorem encMsg_in (m : Msg) : inB (encMsg m) := inB_append (inB_append (inB_append (leB_in _ _) (leB_in _ _)) (leB_in _ _)) (ofB_inB _)
theorem encMsg_len (m : Msg) : (encMsg m).length = 3 + m.2.2.size := by simp [encMsg, leB_len, ofB_len]; omega
theorem flat_in (ms : List Msg) : inB (ms.flatMap encMsg) := fun x hx => by
  obtain ⟨m, _, h⟩ := List.mem_flatMap.1 hx
  exact encMsg_in m x h
theorem encH_in (k r : Int) (ms : List Msg) : inB (encH k r ms) := inB_append (inB_append (inB_append (leB_in _ _) (leB_in _ _)) (leB_in _ _)) (flat_in ms)
theorem flat_len {ms : List Msg} (h : ∀ m ∈ ms, m.2.2.size ≤ 200) : (ms.flatMap encMsg).length ≤ ms.length * 203 := by
  induction ms with
  | nil => simp
  | cons m ms ih =>
    have := ih (fun x hx => h x (by simp [hx])); have h1 := h m (by simp)
    rw [List.flatMap_cons, List.length_append, encMsg_len, List.length_cons]; omega
theorem okMsg_size {m : Msg} (h : okMsg m = true) : m.2.2.size ≤ 200 := by
  unfold okMsg at h
  simp only [Bool.and_eq_true, decide_eq_true_eq] at h
  omega
theorem vH_iff {k r : Int} {ms : List Msg} : vH k r ms = true ↔ (1 ≤ k ∧ k ≤ 3) ∧ (0 ≤ r ∧ r ≤ 1000) ∧ (ms.length : Int) ≤ 24 ∧ ∀ m ∈ ms, okMsg m = true := by
  unfold vH
  simp only [Bool.and_eq_true, inr_iff, decide_eq_true_eq, List.all_eq_true]
/-! headerC -/
theorem leB_one (n : Int) : leB n 1 = [wu8 n] := by rw [leB_succ]; simp [leB]
theorem write_some (s buf : List Int) (hs : inB s) (h : buf.length + s.length ≤ 140737488355328) : strings_Builder_WriteString_wv (toB s) buf = some ((s.length : Int), buf ++ s) := by
  rw [strings_Builder_WriteString_wv_eq, strings_Builder_copyCheck_eq, sbind_some, ofB_toB hs, sif_pos (room_ok (by omega)), toB_size]
theorem impl_encode_header (k r : Int) (ms : List Msg) (hv : vH k r ms = true) : impl_Header_encode k r ms = some (toB (encH k r ms)) := by
  rw [vH_iff] at hv
  obtain ⟨_, _, hn, hm⟩ := hv
  have hfl := flat_len (ms := ms) (fun m h => okMsg_size (hm m h))
  have e1 := impl_putBytes_some k 1 (by omega); have e2 := impl_putBytes_some r 2 (by omega); have e3 := impl_putBytes_some (ms.length : Int) 1 (by omega)
  rw [impl_Header_encode_eq, show impl_putBytes k 1 = _ from e1, show impl_putBytes r 2 = _ from e2, show impl_putBytes (ms.length : Int) 1 = _ from e3]
  simp only [sbind_some, toB_append]
  rw [sif_pos (joinsT (by simp [leB_len])), sif_pos (joinsT (by simp [leB_len])), write_some _ _ (inB_append (inB_append (leB_in _ _) (leB_in _ _)) (leB_in _ _)) (by simp [leB_len]), sbind_some]
  dsimp only
  rw [List.nil_append]
  have hpre : (leB k 1 ++ leB r 2 ++ leB (ms.length : Int) 1).length = 4 := by simp [leB_len]
  have hprei : inB (leB k 1 ++ leB r 2 ++ leB (ms.length : Int) 1) := inB_append (inB_append (leB_in _ _) (leB_in _ _)) (leB_in _ _)
  unfold encH
  generalize leB k 1 ++ leB r 2 ++ leB (ms.length : Int) 1 = pre at hpre hprei
  have := loop_to ms.length (fun i buf => impl_Header_encode_l4 ms (ms.length : Int) (i : Int) buf) (fun _ _ => some (toB (pre ++ ms.flatMap encMsg))) (fun i buf => buf = pre ++ (ms.take i).flatMap encMsg) (fun buf hb => by
      rw [impl_Header_encode_l4_eq, sif_f (by omega), strings_Builder_String_eq, hb, List.take_length]
      unfold textB
      rw [if_pos (by rw [List.length_append]; omega), sbind_some])
    (fun i buf hi hb ih => by
      have hx : ms[i]? = some ms[i] := List.getElem?_eq_getElem hi
      have hok := okMsg_size (hm _ (List.getElem_mem hi))
      have hfi := flat_len (ms := ms.take i) (fun m h => okMsg_size (hm m (List.mem_of_mem_take h)))
      rw [List.length_take] at hfi
      have f1 := impl_putBytes_some ms[i].1 1 (by omega); have f2 := impl_putBytes_some ms[i].2.1 1 (by omega); have f3 := impl_putBytes_some (ms[i].2.2.size : Int) 1 (by omega)
      have hd : ms[i].2.2 = toB (ofB ms[i].2.2) := (toB_ofB _).symm
      have hdl : (ofB ms[i].2.2).length = ms[i].2.2.size := ofB_len _
      rw [impl_Header_encode_l4_eq, sif_t (by omega), idx_some hx, sbind_some, show impl_putBytes ms[i].1 1 = _ from f1, show impl_putBytes ms[i].2.1 1 = _ from f2, show impl_putBytes (ms[i].2.2.size : Int) 1 = _ from f3]
      simp only [sbind_some, toB_append]
      rw [sif_pos (joinsT (by simp [leB_len])), sif_pos (joinsT (by simp [leB_len])), hd, sif_pos (joinsT (by simp [leB_len, hdl]; omega)), toB_append, toB_size, hdl]
      have hblen : buf.length ≤ 4 + 24 * 203 := by rw [hb, List.length_append]; omega
      have hw := write_some (encMsg ms[i]) buf (encMsg_in _) (by rw [encMsg_len]; omega)
      unfold encMsg at hw
      rw [hw, sbind_some, wi64_add1 (by omega)]
      refine ih _ ?_
      rw [hb, List.take_succ_eq_append_getElem hi, List.flatMap_append]
      simp [encMsg]) 0 pre (by omega) (by simp)
  simpa using this
theorem spec_l02Byte_some (n : Int) : spec_l02Byte n = some (toB (leB n 1)) := by rw [spec_l02Byte_eq, leB_one]
theorem spec_l02Put_some (n : Int) (k : Nat) (hk : k ≤ 8) : spec_l02Put n (k : Int) false = some (toB (leB n k)) := by
  rw [spec_l02Put_eq]
  have := loop_to k (fun i out => spec_l02Put_l3 n (k : Int) false out (i : Int)) (fun _ _ => some (toB (leB n k))) (fun i out => out = toB (leB n i)) (fun out ho => by
      rw [spec_l02Put_l3_eq, sif_f (by omega), ho])
    (fun i out hi ho ih => by
      rw [spec_l02Put_l3_eq, sif_t (by omega), wi64_id (n := 8 * (i : Int)) (by omega) (by omega), wu64_id (by omega) (by omega), sif_f (by omega), spec_l02Byte_some, sbind_some, sif_false, ho, sif_pos (joinsT (by simp [leB_len]; omega)), wi64_add1 (by omega)]
      refine ih _ ?_
      rw [toB_append, leB_one, wu8_and, show min (8 * (i : Int)).toNat 64 = 8 * i by omega]
      congr 1
      unfold leB
      rw [List.range_succ, List.map_append]; rfl) 0 (bs []) (by omega) rfl
  simpa using this
theorem spec_EncodeHeader_some (k r : Int) (ms : List Msg) (hn : ms.length ≤ 1048576) : spec_EncodeHeader k r ms = some (if vH k r ms = true then toB (encH k r ms) else bs []) := by
  rw [spec_EncodeHeader_eq, spec_l14Ok_some k r ms hn, sbind_some]
  cases hv : vH k r ms with
  | false => rfl
  | true =>
    rw [Bool.not_true, sif_false, if_pos rfl]
    rw [vH_iff] at hv
    obtain ⟨_, _, hn, hm⟩ := hv
    have hfl := flat_len (ms := ms) (fun m h => okMsg_size (hm m h))
    have e2 := spec_l02Put_some r 2 (by omega)
    rw [spec_l14Encode_eq, spec_l02Byte_some, show spec_l02Put r 2 false = _ from e2, spec_l02Byte_some]
    simp only [sbind_some, toB_append]
    rw [sif_pos (joinsT (by simp [leB_len])), sif_pos (joinsT (by simp [leB_len]))]
    have hpre : (leB k 1 ++ leB r 2 ++ leB (ms.length : Int) 1).length = 4 := by simp [leB_len]
    unfold encH
    generalize leB k 1 ++ leB r 2 ++ leB (ms.length : Int) 1 = pre at hpre
    have := loop_to ms.length (fun i out => spec_l14Encode_l3 out (i : Int) k r ms) (fun _ _ => some (toB (pre ++ ms.flatMap encMsg))) (fun i out => out = toB (pre ++ (ms.take i).flatMap encMsg)) (fun out ho => by
        rw [spec_l14Encode_l3_eq, sif_f (by omega), ho, List.take_length])
      (fun i out hi ho ih => by
        have hx : ms[i]? = some ms[i] := List.getElem?_eq_getElem hi
        have hok := okMsg_size (hm _ (List.getElem_mem hi))
        have hfi := flat_len (ms := ms.take i) (fun m h => okMsg_size (hm m (List.mem_of_mem_take h)))
        rw [List.length_take] at hfi
        have hd : ms[i].2.2 = toB (ofB ms[i].2.2) := (toB_ofB _).symm
        have hdl : (ofB ms[i].2.2).length = ms[i].2.2.size := ofB_len _
        rw [spec_l14Encode_l3_eq, sif_t (by omega), idx_some hx, sbind_some, spec_l02Byte_some, spec_l02Byte_some, spec_l02Byte_some]
        simp only [sbind_some, toB_append]
        rw [sif_pos (joinsT (by simp [leB_len])), sif_pos (joinsT (by simp [leB_len])), hd, sif_pos (joinsT (by simp [leB_len, hdl]; omega)), toB_append, toB_size, hdl, ho, sif_pos (joinsT (by simp only [List.length_append, leB_len, hdl]; omega)), toB_append, wi64_add1 (by omega)]
        refine ih _ ?_
        rw [List.take_succ_eq_append_getElem hi, List.flatMap_append]
        simp [encMsg]) 0 (toB pre) (by omega) (by simp)
    rw [show spec_l14Encode_l3 (toB pre) 0 k r ms = some (toB (pre ++ ms.flatMap encMsg)) by simpa using this, sbind_some]
/-! reading -/
def decM : Nat → List Int → Option (List Msg)
  | 0, l => if l = [] then some [] else none
  | n + 1, k :: f :: z :: r => if z ≤ (r.length : Int) then (match decM n (r.drop z.toNat) with | some ms => some ((k, f, toB (r.take z.toNat)) :: ms) | none => none) else none
  | _ + 1, _ => none
theorem decM_enc : ∀ (n : Nat) (l : List Int) (ms : List Msg), inB l → decM n l = some ms → l = ms.flatMap encMsg ∧ ms.length = n
  | 0, l, ms, _, h => by
    unfold decM at h
    split at h
    · next h1 => cases h; subst h1; exact ⟨rfl, rfl⟩
    · cases h
  | n + 1, [], ms, _, h => by simp [decM] at h
  | n + 1, [a], ms, _, h => by simp [decM] at h
  | n + 1, [a, b], ms, _, h => by simp [decM] at h
  | n + 1, k :: f :: z :: r, ms, hb, h => by
    have h1 := hb k (by simp); have h2 := hb f (by simp); have h3 := hb z (by simp)
    have hr : inB r := fun y hy => hb y (by simp [hy])
    unfold decM at h
    split at h
    · next hz =>
      split at h
      · next ms' hd =>
        cases h
        obtain ⟨g1, g2⟩ := decM_enc n _ ms' (inB_drop hr _) hd
        refine ⟨?_, by simp [g2]⟩
        rw [List.flatMap_cons, ← g1]
        have hsz : (toB (r.take z.toNat)).size = z.toNat := by rw [toB_size, List.length_take]; omega
        unfold encMsg
        dsimp only
        rw [hsz, leB_one, leB_one, leB_one, wu8_id h1.1 h1.2, wu8_id h2.1 h2.2, wu8_id (by omega) (by omega), ofB_toB (inB_take hr _)]
        simp only [List.cons_append, List.nil_append, List.take_append_drop]
        rw [show ((z.toNat : Nat) : Int) = z by omega]
      · cases h
    · cases h
theorem enc_decM : ∀ (ms : List Msg), (∀ m ∈ ms, okMsg m = true) → decM ms.length (ms.flatMap encMsg) = some ms
  | [], _ => by simp [decM]
  | m :: ms, h => by
    obtain ⟨k, f, d⟩ := m
    have hm := h _ (List.mem_cons_self ..)
    unfold okMsg at hm
    simp only [Bool.and_eq_true, inr_iff, decide_eq_true_eq] at hm
    have hsz := ofB_len d
    have e : encMsg (k, f, d) = k :: f :: (d.size : Int) :: ofB d := by
      unfold encMsg
      dsimp only
      rw [leB_one, leB_one, leB_one, wu8_id (by omega) (by omega), wu8_id (by omega) (by omega), wu8_id (by omega) (by omega)]; rfl
    rw [List.flatMap_cons, List.length_cons, e]
    simp only [List.cons_append]
    have ht : ((d.size : Int)).toNat = (ofB d).length := by rw [hsz]; omega
    rw [decM, if_pos (by rw [List.length_append]; omega), ht, List.drop_left, List.take_left, enc_decM ms (fun x hx => h x (by simp [hx]))]
    dsimp only
    rw [toB_ofB]
theorem dec_bad (n : Int) (rest : ByteArray) (k r : Int) (acc : List Msg) : impl_DecodeHeader_l4 n 0 0 rest true k r [] acc = some (0, 0, false, []) := by
  rw [impl_DecodeHeader_l4_eq, Bool.not_true, sif_false, sif_true, sif_same]
theorem dec_loop (k r : Int) : ∀ (n : Nat) (l : List Int) (acc : List Msg), inB l → l.length ≤ 1048000 → acc.length + n ≤ 1000 → impl_DecodeHeader_l4 (n : Int) 0 0 (toB l) false k r [] acc = some (match decM n l with | some ms => if vH k r (acc ++ ms) = true then (k, r, true, acc ++ ms) else (0, 0, false, []) | none => (0, 0, false, [])) := by
  intro n
  induction n with
  | zero =>
    intro l acc hl hn ha
    rw [impl_DecodeHeader_l4_eq, sif_f (by omega), sif_false, bs_nil, seq_toB hl (fun x hx => by cases hx)]
    unfold decM
    by_cases h : l = []
    · rw [decide_eq_true h, Bool.not_true, sif_false, impl_ValidHeader_some k r acc (by omega), sbind_some, if_pos h]
      dsimp only
      rw [List.append_nil]
      cases vH k r acc <;> rfl
    · rw [decide_eq_false h, if_neg h]; rfl
  | succ n ih =>
    intro l acc hl hn ha
    rw [impl_DecodeHeader_l4_eq, sif_t (by omega), Bool.not_false, sif_true]
    have hroom : ∀ m : Msg, (sif (room (acc.length + 1) 32) (some m) none) = some m := fun m => sif_pos (room_ok (by omega))
    match l, hl, hn with
    | [], hl, hn =>
      rw [byte_nil, sbind_some, byte_nil, sbind_some, byte_nil, sbind_some, take_ok [] 0 (by omega) (by simp) (by simp) true, sbind_some, sif_pos (room_ok (by omega)), dec_bad]; rfl
    | [a], hl, hn =>
      rw [byte_cons hl (by simp), sbind_some, byte_nil, sbind_some, byte_nil, sbind_some, take_ok [] 0 (by omega) (by simp) (by simp) true, sbind_some, sif_pos (room_ok (by omega)), dec_bad]; rfl
    | [a, b], hl, hn =>
      rw [byte_cons hl (by simp), sbind_some]
      dsimp only
      rw [byte_cons (inB_tail hl) (by simp), sbind_some, byte_nil, sbind_some, take_ok [] 0 (by omega) (by simp) (by simp) true, sbind_some, sif_pos (room_ok (by omega)), dec_bad]; rfl
    | a :: b :: z :: s, hl, hn =>
      simp only [List.length_cons] at hn
      have hz := hl z (by simp)
      have hs : inB s := inB_tail (inB_tail (inB_tail hl))
      rw [byte_cons hl (by simp; omega), sbind_some]
      dsimp only
      rw [byte_cons (inB_tail hl) (by simp; omega), sbind_some]
      dsimp only
      rw [byte_cons (inB_tail (inB_tail hl)) (by omega), sbind_some]
      dsimp only
      unfold decM
      by_cases hzz : z ≤ (s.length : Int)
      · rw [take_ok s z hz.1 hzz (by omega), sbind_some, sif_pos (room_ok (by omega)), wi64_id (by omega) (by omega), show ((n + 1 : Nat) : Int) - 1 = (n : Int) by omega, if_pos hzz]
        dsimp only
        rw [ih (s.drop z.toNat) _ (inB_drop hs _) (by rw [List.length_drop]; omega) (by simp; omega)]
        cases decM n (s.drop z.toNat) with
        | none => rfl
        | some ms => simp
      · rw [take_fail s z hz.1 (by omega) (by omega), sbind_some, sif_pos (room_ok (by omega)), dec_bad, if_neg hzz]
def decH : List Int → Int × Int × Bool × List Msg
  | k :: a :: b :: n :: l => match decM n.toNat l with | some ms => if vH k (a + 256 * b) ms = true then (k, a + 256 * b, true, ms) else (0, 0, false, []) | none => (0, 0, false, [])
  | _ => (0, 0, false, [])
theorem impl_DecodeHeader_some (l : List Int) (hl : inB l) (hn : l.length ≤ 1048000) : impl_DecodeHeader (toB l) = some (decH l) := by
  rw [impl_DecodeHeader_eq]
  match l, hl, hn with
  | [], hl, hn => rw [byte_nil, sbind_some, number_fail [] 2 (by omega) (by simp) (by omega), sbind_some, byte_nil, sbind_some, dec_bad]; rfl
  | [k], hl, hn => rw [byte_cons hl (by simp), sbind_some, number_fail [] 2 (by omega) (by simp) (by omega), sbind_some, byte_nil, sbind_some, dec_bad]; rfl
  | [k, a], hl, hn =>
    rw [byte_cons hl (by simp), sbind_some]
    dsimp only
    rw [number_fail [a] 2 (by omega) (by simp) (by omega), sbind_some]
    dsimp only
    rw [byte_cons (inB_tail hl) (by simp), sbind_some, dec_bad]; rfl
  | k :: a :: b :: l, hl, hn =>
    simp only [List.length_cons] at hn
    have ha := hl a (by simp); have hb := hl b (by simp)
    have e : impl_decoder_number_w 2 (toB (a :: b :: l)) false = _ := impl_number_some (a :: b :: l) (inB_tail hl) 2 (by omega) (by simp) (by simp; omega) false
    have e2 : wi64 (leN ((a :: b :: l).take 2)) = a + 256 * b := by
      show wi64 (a + 256 * (b + 256 * 0)) = _
      rw [wi64_id (by omega) (by omega)]; omega
    rw [byte_cons hl (by simp; omega), sbind_some]
    dsimp only
    rw [e, sbind_some, e2]
    dsimp only [List.drop]
    match l, hl, hn with
    | [], hl, hn => rw [byte_nil, sbind_some, dec_bad]; rfl
    | n :: l, hl, hn =>
      simp only [List.length_cons] at hn
      have h3 : inB (n :: l) := inB_tail (inB_tail (inB_tail hl))
      have hnn := h3 n (by simp)
      rw [byte_cons h3 (by omega), sbind_some]
      dsimp only
      have := dec_loop k (a + 256 * b) n.toNat l [] (inB_tail h3) (by omega) (by simp; omega)
      rw [show ((n.toNat : Nat) : Int) = n by omega] at this
      rw [this]
      rfl
theorem decH_enc {k r : Int} {ms : List Msg} (hv : vH k r ms = true) : decH (encH k r ms) = (k, r, true, ms) := by
  have hv' := hv
  rw [vH_iff] at hv'
  obtain ⟨hk, hr, hn, hm⟩ := hv'
  have e : encH k r ms = k :: wu8 r :: wu8 (Int.fdiv r 256) :: (ms.length : Int) :: ms.flatMap encMsg := by
    unfold encH
    rw [leB_one, leB_one, leB_succ, leB_one, wu8_id (n := k) (by omega) (by omega), wu8_id (n := (ms.length : Int)) (by omega) (by omega)]; rfl
  have hr2 : wu8 r + 256 * wu8 (Int.fdiv r 256) = r := by rw [Int.fdiv_eq_ediv_of_nonneg _ (by decide), wu8_def, wu8_def]; omega
  rw [e, decH, Int.toNat_natCast, enc_decM ms hm]
  dsimp only
  rw [hr2, if_pos hv]
theorem decH_ok {l : List Int} (hl : inB l) (h : (decH l).2.2.1 = true) : vH (decH l).1 (decH l).2.1 (decH l).2.2.2 = true ∧ encH (decH l).1 (decH l).2.1 (decH l).2.2.2 = l := by
  match l, hl, h with
  | [], _, h => cases h
  | [_], _, h => cases h
  | [_, _], _, h => cases h
  | [_, _, _], _, h => cases h
  | k :: a :: b :: n :: l, hl, h =>
    have hk := hl k (by simp); have ha := hl a (by simp); have hb := hl b (by simp); have hn := hl n (by simp)
    have e : decH (k :: a :: b :: n :: l) = (match decM n.toNat l with | some ms => if vH k (a + 256 * b) ms = true then (k, a + 256 * b, true, ms) else (0, 0, false, []) | none => (0, 0, false, [])) := rfl
    rw [e] at h ⊢
    cases hd : decM n.toNat l with
    | none => rw [hd] at h; cases h
    | some ms =>
      rw [hd] at h
      dsimp only at h ⊢
      by_cases hv : vH k (a + 256 * b) ms = true
      · rw [if_pos hv]
        refine ⟨hv, ?_⟩
        obtain ⟨g1, g2⟩ := decM_enc _ l ms (inB_tail (inB_tail (inB_tail (inB_tail hl)))) hd
        unfold encH
        dsimp only
        rw [← g1, g2, leB_one, leB_one, leB_succ, leB_one, Int.fdiv_eq_ediv_of_nonneg _ (by decide), wu8_id (n := k) hk.1 hk.2, show ((n.toNat : Nat) : Int) = n by omega, wu8_id (n := n) hn.1 hn.2, wu8_def, wu8_def, show (a + 256 * b) % 256 = a by omega, show (a + 256 * b) / 256 % 256 = b by omega]
        rfl
      · rw [if_neg hv] at h; cases h
/-! FnHeaderText -/
theorem spec_l03Zeros_some (n : Int) (h0 : 0 ≤ n) (h1 : n ≤ 1000) : spec_l03Zeros n = some (toB (List.replicate n.toNat 0)) := by
  rw [spec_l03Zeros_eq, spec_l00Max_eq]
  by_cases h : n > 0
  · rw [sif_t h, sbind_some, le3_ok (by omega) (by omega), room_ok (by omega)]; rfl
  · rw [sif_f h, sbind_some, show n = 0 by omega]; rfl
theorem draw13 (c : List Int) (hc : inB c) (k r : Int) : ∀ (n : Nat) (at_ seed : Int) (ms : List Msg), 0 ≤ at_ → at_ + 2 * n ≤ 1000000 → 30 ≤ ms.length + n → ms.length ≤ 30 → ∃ k' r' at' seed' ms', spec_l14DrawHeader_wd_l13 c at_ seed 0 0 k r [] ms = some (k', r', c, at', seed', ms') ∧ 0 ≤ at' ∧ at' ≤ 1000010 ∧ ms'.length ≤ 40 := by
  intro n
  induction n with
  | zero =>
    intro at_ seed ms h0 h1 h2 h3
    obtain ⟨x, a, s, e, x0, x1, _, a0, a1⟩ := srcPick_some 2 c at_ seed hc h0 (by omega) (by omega)
    have x1 := x1 (by omega)
    rw [spec_l14DrawHeader_wd_l13_eq, e, sbind_some]
    dsimp only
    rw [wi64_id (by omega) (by omega), sif_f (by omega)]
    exact ⟨_, _, _, _, _, rfl, by omega, by omega, by omega⟩
  | succ n ih =>
    intro at_ seed ms h0 h1 h2 h3
    obtain ⟨x, a, s, e, x0, x1, _, a0, a1⟩ := srcPick_some 2 c at_ seed hc h0 (by omega) (by omega)
    have x1 := x1 (by omega)
    rw [spec_l14DrawHeader_wd_l13_eq, e, sbind_some]
    dsimp only
    rw [wi64_id (by omega) (by omega)]
    by_cases h : (ms.length : Int) < 24 + x
    · rw [sif_t h, sif_pos (room_ok (by omega))]
      exact ih a s _ (by omega) (by omega) (by simp; omega) (by simp; omega)
    · rw [sif_f h]
      exact ⟨_, _, _, _, _, rfl, by omega, by omega, by omega⟩
theorem draw_end (n : Int) (hn : n ≤ 200) (c : List Int) (hc : inB c) (k r : Int) (at_ seed : Int) (ms : List Msg) (h0 : 0 ≤ at_) (h1 : at_ ≤ 900000) (hm : ms.length ≤ 10) : ∃ k' r' at' seed' ms', spec_l14DrawHeader_wd_l3 n 0 c at_ seed 0 0 k r [] ms = some (k', r', c, at', seed', ms') ∧ 0 ≤ at' ∧ at' ≤ 1000010 ∧ ms'.length ≤ 40 := by
  obtain ⟨x1, a1, s1, e1, p1, q1⟩ := srcOne_some n c at_ seed hc h0 (by omega) (by omega)
  obtain ⟨x2, a2, s2, e2, _, _, _, p2, q2⟩ := srcPick_some 6 c a1 s1 hc (by omega) (by omega) (by omega)
  obtain ⟨y0, b0, t0, f0, _, u0, v0⟩ := srcAmong_some [0, 4, -1] (by decide) (by decide) c a2 s2 hc (by omega) (by omega)
  obtain ⟨y1, b1, t1, f1, _, u1, v1⟩ := srcAmong_some [-1, 1000, 1001] (by decide) (by decide) c a2 s2 hc (by omega) (by omega)
  obtain ⟨y2, b2, t2, f2, _, u2, v2⟩ := srcAmong_some [0, 10] (by decide) (by decide) c a2 s2 hc (by omega) (by omega)
  obtain ⟨y3, b3, t3, f3, _, u3, v3⟩ := srcAmong_some [-1, 255, 256] (by decide) (by decide) c a2 s2 hc (by omega) (by omega)
  rw [spec_l14DrawHeader_wd_l3_eq, sif_f (by omega)]
  simp only [e1, e2, f0, f1, f2, f3, sbind_some, spec_l03Zeros_some 201 (by omega) (by omega)]
  have hroom : room (ms.length + 1) 32 = true := room_ok (by omega)
  cases x1 with
  | false => exact ⟨_, _, _, _, _, rfl, by omega, by omega, by omega⟩
  | true =>
    rw [Bool.not_true, sif_false]
    simp only [hroom, sif_true]
    cases (x2 == 0) with
    | true => exact ⟨_, _, _, _, _, rfl, by omega, by omega, by omega⟩
    | false =>
    cases (x2 == 1) with
    | true => exact ⟨_, _, _, _, _, rfl, by omega, by omega, by omega⟩
    | false =>
    cases (x2 == 2) with
    | true => exact ⟨_, _, _, _, _, rfl, by omega, by omega, by simp; omega⟩
    | false =>
    cases (x2 == 3) with
    | true => exact ⟨_, _, _, _, _, rfl, by omega, by omega, by simp; omega⟩
    | false =>
    cases (x2 == 4) with
    | true => exact ⟨_, _, _, _, _, rfl, by omega, by omega, by simp; omega⟩
    | false =>
      exact draw13 c hc k r 30 a2 s2 ms (by omega) (by omega) (by omega) (by omega)
theorem draw_loop (n : Int) (hn : n ≤ 200) (c : List Int) (hc : inB c) (k r : Int) : ∀ (q : Nat) (at_ seed : Int) (ms : List Msg), 0 ≤ at_ → at_ + 70000 * q ≤ 900000 → ms.length + q ≤ 10 → ∃ k' r' at' seed' ms', spec_l14DrawHeader_wd_l3 n (q : Int) c at_ seed 0 0 k r [] ms = some (k', r', c, at', seed', ms') ∧ 0 ≤ at' ∧ at' ≤ 1000010 ∧ ms'.length ≤ 40 := by
  intro q
  induction q with
  | zero => intro at_ seed ms h0 h1 h2; exact draw_end n hn c hc k r at_ seed ms h0 (by omega) (by omega)
  | succ q ih =>
    intro at_ seed ms h0 h1 h2
    obtain ⟨x1, a1, s1, e1, _, _, _, p1, q1⟩ := srcPick_some 9 c at_ seed hc h0 (by omega) (by omega)
    obtain ⟨x2, a2, s2, e2, _, _, _, p2, q2⟩ := srcPick_some 3 c a1 s1 hc (by omega) (by omega) (by omega)
    obtain ⟨l, a3, s3, e3, _, _, p3, q3⟩ := srcWord_some 12 c a2 s2 hc (by omega) (by omega) (by omega)
    obtain ⟨x4, a4, s4, e4, p4, q4⟩ := srcOne_some 6 c a3 s3 hc (by omega) (by omega) (by omega)
    obtain ⟨y, a5, s5, e5, hy, p5, q5⟩ := srcAmong_some [40, 56, 57, 60, 100, 200] (by decide) (by decide) c a4 s4 hc (by omega) (by omega)
    have hy2 : 0 ≤ y ∧ y ≤ 200 := by simp at hy; omega
    rw [spec_l14DrawHeader_wd_l3_eq, sif_t (by omega)]
    simp only [e1, e2, e3, e4, e5, sbind_some, spec_l03Zeros_some y hy2.1 (by omega)]
    have hroom : room (ms.length + 1) 32 = true := room_ok (by omega)
    simp only [hroom, sif_true]
    rw [wi64_id (n := ((q + 1 : Nat) : Int) - 1) (by omega) (by omega), show ((q + 1 : Nat) : Int) - 1 = (q : Int) by omega]
    cases x4 with
    | true => exact ih a5 s5 _ (by omega) (by omega) (by simp; omega)
    | false => exact ih a4 s4 _ (by omega) (by omega) (by simp; omega)
theorem drawHeader_some (n : Int) (hn : n ≤ 200) (c : List Int) (hc : inB c) : ∃ k r at' seed' ms, spec_l14DrawHeader_wd n c 0 0 = some (k, r, c, at', seed', ms) ∧ 0 ≤ at' ∧ at' ≤ 1000010 ∧ ms.length ≤ 40 := by
  obtain ⟨x1, a1, s1, e1, _, _, _, p1, q1⟩ := srcPick_some 3 c 0 0 hc (by omega) (by omega) (by omega)
  obtain ⟨x2, a2, s2, e2, _, _, _, p2, q2⟩ := srcPick_some 4 c a1 s1 hc (by omega) (by omega) (by omega)
  obtain ⟨x3, a3, s3, e3, h0, h1, _, p3, q3⟩ := srcPick_some 5 c a2 s2 hc (by omega) (by omega) (by omega)
  have h1 := h1 (by omega)
  rw [spec_l14DrawHeader_wd_eq]
  simp only [e1, e2, e3, sbind_some]
  have := draw_loop n hn c hc (wi64 (1 + x1)) x2 x3.toNat a3 s3 [] (by omega) (by omega) (by simp; omega)
  rwa [show ((x3.toNat : Nat) : Int) = x3 by omega] at this
theorem srcText_some (L : List ByteArray) (h0 : L ≠ []) (h1 : L.length ≤ 65536) (hL : ∀ w ∈ L, ∃ z, w = toB z ∧ inB z ∧ z.length ≤ 8) (c : List Int) (at_ seed : Int) (hc : inB c) (p0 : 0 ≤ at_) (p1 : at_ ≤ 4611686018427387900) : ∃ z at' seed', spec_l00Src_text_wdd L c at_ seed = some (toB z, c, at', seed') ∧ inB z ∧ z.length ≤ 8 ∧ at_ ≤ at' ∧ at' ≤ at_ + 2 := by
  have hpos : 0 < L.length := List.length_pos_iff.2 h0
  obtain ⟨x, a, s, e, x0, x1, _, a0, a1⟩ := srcPick_some (L.length : Int) c at_ seed hc p0 p1 (by omega)
  have hx := x1 (by omega)
  have hlt : x.toNat < L.length := by omega
  obtain ⟨z, hz, z1, z2⟩ := hL _ (List.getElem_mem hlt)
  rw [spec_l00Src_text_wdd_eq, e, sbind_some]
  dsimp only
  rw [idx_int x0, List.getElem?_eq_getElem hlt, sbind_some, hz]
  exact ⟨_, _, _, rfl, z1, z2, a0, a1⟩
theorem srcBend_some (T : List Int) (hT : inB T) (hTl : T.length ≤ 60000) (L : List ByteArray) (h0 : L ≠ []) (h1 : L.length ≤ 65536) (hL : ∀ w ∈ L, ∃ z, w = toB z ∧ inB z ∧ z.length ≤ 8) (c : List Int) (at_ seed : Int) (hc : inB c) (p0 : 0 ≤ at_) (p1 : at_ ≤ 4611686018427387000) : ∃ z at' seed', spec_l02Bend_wdd (toB T) L c at_ seed = some (toB z, c, at', seed') ∧ inB z ∧ z.length ≤ 60010 := by
  rw [spec_l02Bend_wdd_eq, bs_nil, seq_toB hT (fun x hx => by cases hx)]
  by_cases hn : T = []
  · obtain ⟨z, a, s, e, z1, z2, _, _⟩ := srcText_some L h0 h1 hL c at_ seed hc p0 (by omega)
    rw [decide_eq_true hn, sif_true, e, sbind_some]
    exact ⟨_, _, _, rfl, z1, by omega⟩
  · have hpos : 0 < T.length := List.length_pos_iff.2 hn
    obtain ⟨x, a1, s1, e1, x0, x1, _, q1, q2⟩ := srcPick_some (T.length : Int) c at_ seed hc p0 (by omega) (by omega)
    have hx := x1 (by omega)
    obtain ⟨y, a2, s2, e2, _, _, _, q3, q4⟩ := srcPick_some 3 c a1 s1 hc (by omega) (by omega) (by omega)
    obtain ⟨z, a3, s3, e3, z1, z2, q5, q6⟩ := srcText_some L h0 h1 hL c a2 s2 hc (by omega) (by omega)
    rw [decide_eq_false hn, sif_false, toB_size, e1, sbind_some]
    simp only [e2, e3, sbind_some, extract_toB, toB_append]
    rw [wi64_id (n := x + 1) (by omega) (by omega)]
    cases (y == 0) with
    | true =>
      rw [sif_true, sif_pos (le3_ok x0 (by omega)), sif_pos (le3_ok (by omega) (by omega)), sif_pos (joinsT (by simp; omega))]
      exact ⟨_, _, _, rfl, inB_append (inB_drop (inB_take hT _) _) (inB_drop (inB_take hT _) _), by simp; omega⟩
    | false =>
    cases (y == 1) with
    | true =>
      rw [sif_false, sif_true, sif_pos (le3_ok x0 (by omega)), sif_pos (joinsT (by simp; omega)), sif_pos (le3_ok x0 (by omega)), sif_pos (joinsT (by simp; omega))]
      exact ⟨_, _, _, rfl, inB_append (inB_append (inB_drop (inB_take hT _) _) z1) (inB_drop (inB_take hT _) _), by simp; omega⟩
    | false =>
      rw [sif_false, sif_false, sif_pos (le3_ok x0 (by omega)), sif_pos (joinsT (by simp; omega)), sif_pos (le3_ok (by omega) (by omega)), sif_pos (joinsT (by simp; omega))]
      exact ⟨_, _, _, rfl, inB_append (inB_append (inB_drop (inB_take hT _) _) z1) (inB_drop (inB_take hT _) _), by simp; omega⟩
theorem encH_len {k r : Int} {ms : List Msg} (hv : vH k r ms = true) : (encH k r ms).length ≤ 6000 := by
  rw [vH_iff] at hv
  obtain ⟨_, _, hn, hm⟩ := hv
  have hfl := flat_len (ms := ms) (fun m h => okMsg_size (hm m h))
  unfold encH
  simp only [List.length_append, leB_len]; omega
theorem spec_DrawDecodeHeader_some (c : List Int) (hc : inB c) : ∃ l, spec_DrawDecodeHeader c = some (toB l) ∧ inB l ∧ l.length ≤ 60010 := by
  obtain ⟨k, r, a2, s2, ms, e2, p2, q2, hm⟩ := drawHeader_some 20 (by omega) c hc
  obtain ⟨T, hT, T1, T2⟩ : ∃ T, (if vH k r ms = true then toB (encH k r ms) else bs []) = toB T ∧ inB T ∧ T.length ≤ 6000 := by
    by_cases hv : vH k r ms = true
    · exact ⟨_, if_pos hv, encH_in _ _ _, encH_len hv⟩
    · exact ⟨[], if_neg hv, (fun x hx => by cases hx), by simp⟩
  obtain ⟨x4, a4, s4, e4, p4, q4⟩ := srcOne_some 2 c a2 s2 hc p2 (by omega) (by omega)
  obtain ⟨z, a5, s5, e5, z1, z2⟩ := srcBend_some T T1 (by omega) [bs [0], bs [1], bs [2], bs [3], bs [9], bs [10], bs [200], bs [201], bs [255]] (by simp) (by simp) (fun w hw => by
    simp only [List.mem_cons, List.not_mem_nil, or_false] at hw
    rcases hw with rfl | rfl | rfl | rfl | rfl | rfl | rfl | rfl | rfl
    · exact ⟨[0], rfl, (by unfold inB; decide), by decide⟩
    · exact ⟨[1], rfl, (by unfold inB; decide), by decide⟩
    · exact ⟨[2], rfl, (by unfold inB; decide), by decide⟩
    · exact ⟨[3], rfl, (by unfold inB; decide), by decide⟩
    · exact ⟨[9], rfl, (by unfold inB; decide), by decide⟩
    · exact ⟨[10], rfl, (by unfold inB; decide), by decide⟩
    · exact ⟨[200], rfl, (by unfold inB; decide), by decide⟩
    · exact ⟨[201], rfl, (by unfold inB; decide), by decide⟩
    · exact ⟨[255], rfl, (by unfold inB; decide), by decide⟩) c a4 s4 hc (by omega) (by omega)
  rw [spec_DrawDecodeHeader_eq, spec_l00From_eq]
  simp only [sbind_some, e2, spec_EncodeHeader_some k r ms (by omega), hT, e4, e5]
  cases x4 with
  | true => exact ⟨_, rfl, T1, by omega⟩
  | false => exact ⟨_, rfl, z1, z2⟩
theorem impl_EncodeHeader_some (k r : Int) (ms : List Msg) (hn : ms.length ≤ 1048576) : impl_EncodeHeader k r ms = some (if vH k r ms = true then toB (encH k r ms) else bs []) := by
  rw [impl_EncodeHeader_eq, impl_ValidHeader_some k r ms hn, sbind_some]
  cases hv : vH k r ms with
  | false => rfl
  | true => rw [Bool.not_true, sif_false, impl_encode_header k r ms hv, sbind_some, if_pos rfl]
theorem same_refl (k r : Int) (ms : List Msg) (hn : ms.length ≤ 1048576) : spec_SameHeader k r ms k r ms = some true := by
  rw [spec_SameHeader_eq]
  simp only [bne_self_eq_false, sif_false]
  have := all_loop ms (fun _ => true) (fun i => spec_SameHeader_l4 (i : Int) k r ms k r ms) false (fun i x hx hi => by
    rw [spec_SameHeader_l4_eq, sif_t (by omega), idx_some hx, sbind_some, sbind_some, seq_self, wi64_add1 (by omega)]
    simp only [beq_self_eq_true, Bool.and_true, Bool.not_true, sif_false, sif_true])
  refine Eq.trans this ?_
  rw [spec_SameHeader_l4_eq, sif_f (Int.lt_irrefl _), show ms.all (fun _ => true) = true by rw [List.all_eq_true]; intro _ _; rfl]
  rfl
theorem htail_some (m : List Int) (hm : inB m) (hl : m.length ≤ 60010) : (sbind (impl_DecodeHeader (toB m)) fun r7 => sif (!r7.2.2.1) (some true) <| sbind (impl_EncodeHeader r7.1 r7.2.1 r7.2.2.2) fun r8 => some (seq r8 (toB m))) = some true := by
  rw [impl_DecodeHeader_some m hm (by omega), sbind_some]
  cases h : (decH m).2.2.1 with
  | false => rfl
  | true =>
    obtain ⟨h1, h2⟩ := decH_ok hm h
    have hn := (vH_iff.1 h1).2.2.1
    rw [Bool.not_true, sif_false, impl_EncodeHeader_some _ _ _ (by omega), sbind_some, if_pos h1, h2, seq_self]
theorem pure_FnHeaderText (code : List Int) (more : List Int) (O0 : code.length ≤ maxLen ∧ code.length * 1 ≤ 140737488351232 ∧ ∀ e_ ∈ code, (Lit.int .u8 e_).wf = true) (O1 : more.length ≤ maxLen ∧ more.length * 1 ≤ 140737488351232 ∧ ∀ e_ ∈ more, (Lit.int .u8 e_).wf = true) : laws_FnHeaderText code more = some true := by
  have hc : inB code := fun x hx => wf8 (O0.2.2 x hx)
  have hm : inB more := fun x hx => wf8 (O1.2.2 x hx)
  obtain ⟨m, em, m1, m2⟩ := spec_DrawDecodeHeader_some more hm
  obtain ⟨k, r, a2, s2, ms, e2, p2, q2, hl⟩ := drawHeader_some 6 (by omega) code hc
  rw [laws_FnHeaderText_eq, laws_b2Long_eq, laws_b2Long_eq, sbind_some, sbind_some]
  by_cases h1 : (code.length : Int) > 1048576
  · rw [sif_t h1]
  · rw [sif_f h1]
    by_cases h2 : (more.length : Int) > 1048576
    · rw [sif_t h2]
    · rw [sif_f h2, spec_DrawEncodeHeader_eq, spec_l00From_eq, sbind_some, e2, sbind_some, sbind_some]
      dsimp only
      rw [impl_EncodeHeader_some k r ms (by omega), sbind_some, spec_ValidHeader_some k r ms (by omega), sbind_some, em]
      simp only [sbind_some]
      cases hv : vH k r ms with
      | true =>
        have hL := encH_len hv
        rw [sif_true, if_pos rfl, impl_DecodeHeader_some _ (encH_in _ _ _) (by omega), decH_enc hv, sbind_some]
        dsimp only
        rw [Bool.not_true, sif_false, same_refl k r ms (by omega), sbind_some, Bool.not_true, sif_false]
        exact htail_some m m1 m2
      | false =>
        rw [sif_false, if_neg (fun h => by cases h), seq_self, Bool.not_true, sif_false]
        exact htail_some m m1 m2
end Go.Ve.X
