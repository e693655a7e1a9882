/- What 'FnSuperText' comes to, in plain words over numbers, texts and lists: each function that it reaches answers what is told; put together, the law answers true. No condition but the sizes that come in. -/
import Derived.Test.YtejjlklecmdpiaaEqFnSuperText
namespace Go.Ve.X
open Go.Ve
set_option linter.all false
set_option maxRecDepth 100000

/-! bytesL -/
theorem bidx_ofB (s : ByteArray) (i : Int) : bidx s i = idx (Ve.ofB s) i := by
  unfold bidx idx
  split
  · unfold Ve.ofB
    rw [List.getElem?_map]
    congr 1
    rw [Array.getElem?_toList, getElem?_def, getElem?_def]
    rfl
  · rfl
def inB (l : List Int) : Prop := ∀ x ∈ l, 0 ≤ x ∧ x ≤ 255
theorem ofB_inB (s : ByteArray) : inB (Ve.ofB s) := by
  intro x hx
  unfold Ve.ofB at hx
  obtain ⟨b, _, rfl⟩ := List.mem_map.1 hx
  have := b.toNat_lt
  omega
theorem toB_ofB (s : ByteArray) : Ve.toB (Ve.ofB s) = s := by
  unfold Ve.toB Ve.ofB
  rw [List.map_map]
  have : ((fun n : Int => UInt8.ofNat n.toNat) ∘ fun b : UInt8 => (b.toNat : Int)) = id := by funext b; simp
  rw [this, List.map_id]
theorem ofB_toB {l : List Int} (h : inB l) : Ve.ofB (Ve.toB l) = l := by
  unfold Ve.toB Ve.ofB
  simp only [List.map_map]
  conv => rhs; rw [← List.map_id l]
  refine List.map_congr_left (fun x hx => ?_)
  have := h x hx
  simp only [Function.comp, id]
  rw [UInt8.toNat_ofNat']
  omega
theorem bits_and_u64 (a : Int) : 0 ≤ bits .and .u64 a 255 ∧ bits .and .u64 a 255 ≤ 255 := by
  have h : ∀ x : BitVec 64, (x &&& 255#64).toNat ≤ 255 := fun x => by rw [BitVec.toNat_and]; exact Nat.and_le_right
  have := h (BitVec.ofInt 64 a)
  have e : bits .and .u64 a 255 = wu64 (((BitVec.ofInt 64 a) &&& 255#64).toNat : Int) := rfl
  rw [e, wu64_id (by omega) (by omega)]
  omega
/-! leL -/
def leN : List Int → Int
  | [] => 0
  | b :: r => b + 256 * leN r
theorem leN_ge : ∀ {l : List Int}, inB l → 0 ≤ leN l
  | [], _ => by simp [leN]
  | b :: r, h => by
    have := leN_ge (l := r) (fun x hx => h x (by simp [hx])); have := h b (by simp); simp only [leN]; omega
theorem leN_lt : ∀ {l : List Int}, inB l → leN l < 256 ^ l.length
  | [], _ => by simp [leN]
  | b :: r, h => by
    have := leN_lt (l := r) (fun x hx => h x (by simp [hx])); have := h b (by simp)
    simp only [leN, List.length_cons, Int.pow_succ]; omega
theorem leN_append : ∀ (a b : List Int), leN (a ++ b) = leN a + 256 ^ a.length * leN b
  | [], b => by simp [leN]
  | x :: a, b => by
    simp only [List.cons_append, leN, leN_append a b, List.length_cons, Int.pow_succ]
    rw [Int.mul_add, Int.mul_comm (256 ^ a.length) 256, Int.mul_assoc]; omega
theorem inB_take {l : List Int} (h : inB l) (n : Nat) : inB (l.take n) := fun x hx => h x (List.mem_of_mem_take hx)
theorem inB_drop {l : List Int} (h : inB l) (n : Nat) : inB (l.drop n) := fun x hx => h x (List.mem_of_mem_drop hx)
theorem leN_drop {l : List Int} (h : inB l) : ∀ n, leN (l.drop n) ≤ leN l := by
  induction l with
  | nil => intro n; simp
  | cons b r ih =>
    intro n
    cases n with
    | zero => simp
    | succ n =>
      have h1 := ih (fun x hx => h x (by simp [hx])) n
      have h2 := leN_ge (l := r) (fun x hx => h x (by simp [hx]))
      have h3 := h b (by simp)
      simp only [List.drop_succ_cons, leN]; omega
def leB (n : Int) (k : Nat) : List Int := (List.range k).map (fun i => wu8 (Int.fdiv n (2 ^ (8 * i))))
theorem leB_len (n : Int) (k : Nat) : (leB n k).length = k := by simp [leB]
theorem leB_in (n : Int) (k : Nat) : inB (leB n k) := by
  intro x hx
  obtain ⟨i, _, rfl⟩ := List.mem_map.1 hx
  rw [wu8_def]; omega
theorem fdiv_shift (n : Int) (i : Nat) : Int.fdiv n (2 ^ (8 * (i + 1))) = Int.fdiv (Int.fdiv n 256) (2 ^ (8 * i)) := by
  rw [Int.fdiv_eq_ediv_of_nonneg _ (Int.pow_nonneg (by decide)), Int.fdiv_eq_ediv_of_nonneg _ (Int.pow_nonneg (by decide)), Int.fdiv_eq_ediv_of_nonneg _ (by decide)]
  rw [Int.ediv_ediv_of_nonneg (by decide)]
  congr 1
  rw [Nat.mul_add, Int.pow_add, Int.mul_comm]; rfl
theorem leB_succ (n : Int) (k : Nat) : leB n (k + 1) = wu8 n :: leB (Int.fdiv n 256) k := by
  unfold leB
  rw [List.range_succ_eq_map, List.map_cons, List.map_map]
  congr 1
  · simp [Int.fdiv_one]
  · refine List.map_congr_left (fun i _ => ?_)
    simp only [Function.comp]
    rw [Nat.succ_eq_add_one, fdiv_shift]
theorem leN_leB : ∀ (k : Nat) (n : Int), 0 ≤ n → n < 256 ^ k → leN (leB n k) = n
  | 0, n, h0, h1 => by simp at h1; simp [leB, leN]; omega
  | k + 1, n, h0, h1 => by
    rw [Int.pow_succ] at h1
    rw [leB_succ, leN, Int.fdiv_eq_ediv_of_nonneg _ (by decide), leN_leB k (n / 256) (by omega) (by omega), wu8_def]
    omega
theorem or_add {x b k : Nat} (h : x < 2 ^ k) : x ||| (b * 2 ^ k) = x + b * 2 ^ k := by
  have := Nat.shiftLeft_add_eq_or_of_lt h b
  rw [Nat.shiftLeft_eq] at this
  rw [Nat.or_comm, ← this, Nat.add_comm]
theorem bits_or_nat {x y : Nat} (hx : x < 18446744073709551616) (hy : y < 18446744073709551616) : bits .or .u64 (x : Int) (y : Int) = ((x ||| y : Nat) : Int) := by
  have e : bits .or .u64 (x : Int) (y : Int) = wu64 (((BitVec.ofInt 64 (x : Int)) ||| (BitVec.ofInt 64 (y : Int))).toNat : Int) := rfl
  have hxy : x ||| y < 2 ^ 64 := Nat.or_lt_two_pow hx hy
  rw [e, BitVec.toNat_or, BitVec.ofInt_natCast, BitVec.ofInt_natCast, BitVec.toNat_ofNat, BitVec.toNat_ofNat, Nat.mod_eq_of_lt hx, Nat.mod_eq_of_lt hy, wu64_id (by omega) (by omega)]
theorem or_step {n b : Int} {i : Nat} (hi : i ≤ 7) (h0 : 0 ≤ n) (h1 : n < 256 ^ i) (b0 : 0 ≤ b) (b1 : b ≤ 255) : bits .or .u64 n (wu64 ((wu64 b) * 2 ^ (min (wi64 (8 * (i : Int))).toNat 64))) = n + 256 ^ i * b := by
  rw [wi64_id (by omega) (by omega), wu64_id (n := b) (by omega) (by omega)]
  have hm : min (8 * (i : Int)).toNat 64 = 8 * i := by omega
  rw [hm]
  have hp : (256 : Int) ^ i = 2 ^ (8 * i) := by rw [Int.pow_mul]; rfl
  have hpn : ((2 ^ (8 * i) : Nat) : Int) = 2 ^ (8 * i) := by push_cast; rfl
  have hle : (2 : Nat) ^ (8 * i) ≤ 2 ^ 56 := Nat.pow_le_pow_right (by decide) (by omega)
  obtain ⟨bn, rfl⟩ : ∃ bn : Nat, b = bn := ⟨b.toNat, by omega⟩
  obtain ⟨nn, rfl⟩ : ∃ nn : Nat, n = nn := ⟨n.toNat, by omega⟩
  rw [hp, ← hpn] at h1
  have hmul : bn * 2 ^ (8 * i) ≤ 255 * 2 ^ 56 := Nat.mul_le_mul (by omega) hle
  rw [hp, ← hpn, ← Int.natCast_mul, wu64_id (by omega) (by omega), bits_or_nat (by omega) (by omega), or_add (by omega)]
  push_cast
  rw [Int.mul_comm]
theorem wu8_and (m : Int) : wu8 (bits .and .i64 m 255) = wu8 m := by
  have e : bits .and .i64 m 255 = wi64 (((BitVec.ofInt 64 m) &&& 255#64).toNat : Int) := rfl
  have h : ∀ x : BitVec 64, (x &&& 255#64).toNat = x.toNat % 256 := fun x => by
    rw [BitVec.toNat_and]; exact Nat.and_two_pow_sub_one_eq_mod x.toNat 8
  rw [e, h, BitVec.toNat_ofInt, wi64_id (by omega) (by omega), wu8_def, wu8_def]
  omega
theorem toB_append (a b : List Int) : toB a ++ toB b = toB (a ++ b) := by
  unfold toB
  apply ByteArray.ext
  simp
theorem joinsT {a b : List Int} (h : a.length + b.length ≤ 4611686018427387904) : joins (toB a) (toB b) = true := joins_ok (by rw [toB_size, toB_size]; omega)
theorem extract_toB (l : List Int) (i j : Nat) : (toB l).extract i j = toB ((l.take j).drop i) := by
  unfold toB
  apply ByteArray.ext
  simp [ByteArray.data_extract, List.map_take, List.map_drop, List.drop_take]
theorem bidx_toB {l : List Int} (h : inB l) {i : Int} (h0 : 0 ≤ i) : bidx (toB l) i = l[i.toNat]? := by rw [bidx_ofB, ofB_toB h, idx_int h0]
theorem toB_inj {a b : List Int} (ha : inB a) (hb : inB b) (h : toB a = toB b) : a = b := by rw [← ofB_toB ha, h, ofB_toB hb]
/-! superL -/
theorem spec_l00In_inr (n lo hi : Int) : spec_l00In n lo hi = some (inr n lo hi) := by rw [spec_l00In_eq, inr_sif]
theorem impl_within_inr (n lo hi : Int) : impl_within n lo hi = some (inr n lo hi) := by rw [impl_within_eq, inr_sif]
def vS (b l q t : Int) : Bool := inr b 16 256 && (inr l 8 64 && (decide (l ≤ b - 4) && (inr q 0 1000000000000 && inr t 0 1000000000000)))
theorem spec_ValidSuper_some (b l q t : Int) : spec_ValidSuper b l q t = some (vS b l q t) := by
  rw [spec_ValidSuper_eq]
  simp only [spec_l00In_inr, sbind_some, sif_bool]
  unfold vS
  cases h : inr b 16 256 with
  | false => rfl
  | true =>
    rw [inr_iff] at h
    rw [wi64_id (by omega) (by omega)]
theorem impl_ValidSuper_some (b l q t : Int) : impl_ValidSuper b l q t = some (vS b l q t) := by
  rw [impl_ValidSuper_eq]
  simp only [impl_within_inr, sbind_some, sif_bool]
  unfold vS
  cases h : inr b 16 256 with
  | false => rfl
  | true =>
    rw [inr_iff] at h
    rw [wi64_id (by omega) (by omega)]
    congr 1
    simp only [Bool.true_and]
    rw [← Bool.and_assoc (inr l 8 64)]
    congr 1
    rw [Bool.eq_iff_iff]
    simp only [Bool.and_eq_true, inr_iff, decide_eq_true_eq]
    split <;> omega
theorem vS_iff {b l q t : Int} : vS b l q t = true ↔ (16 ≤ b ∧ b ≤ 256) ∧ (8 ≤ l ∧ l ≤ 64) ∧ l ≤ b - 4 ∧ (0 ≤ q ∧ q ≤ 1000000000000) ∧ (0 ≤ t ∧ t ≤ 1000000000000) := by
  unfold vS
  simp only [Bool.and_eq_true, inr_iff, decide_eq_true_eq]
def halfI (b l q t : Int) : List Int := [65, 82, 82, 83] ++ leB 1 1 ++ leB b 2 ++ leB l 2 ++ leB q 8 ++ leB t 8
def encI (b l q t : Int) : List Int := (halfI b l q t ++ List.replicate 7 0) ++ (halfI b l q t ++ List.replicate 7 0)
theorem halfI_len (b l q t : Int) : (halfI b l q t).length = 25 := by simp [halfI, leB_len]
theorem encI_len (b l q t : Int) : (encI b l q t).length = 64 := by simp [encI, halfI_len]
theorem inB_append {a b : List Int} (ha : inB a) (hb : inB b) : inB (a ++ b) := fun x hx => (List.mem_append.1 hx).elim (ha x) (hb x)
theorem halfI_in (b l q t : Int) : inB (halfI b l q t) := by
  unfold halfI
  refine inB_append (inB_append (inB_append (inB_append (inB_append ?_ (leB_in _ _)) (leB_in _ _)) (leB_in _ _)) (leB_in _ _)) (leB_in _ _)
  unfold inB; decide
theorem zeros_in (n : Nat) : inB (List.replicate n 0) := fun x hx => by rw [(List.mem_replicate.1 hx).2]; omega
theorem encI_in (b l q t : Int) : inB (encI b l q t) := inB_append (inB_append (halfI_in _ _ _ _) (zeros_in 7)) (inB_append (halfI_in _ _ _ _) (zeros_in 7))
theorem impl_putBytes_some (n : Int) (k : Nat) (hk : k ≤ 8) : impl_putBytes n (k : Int) = some (toB (leB n k)) := by
  rw [impl_putBytes_eq, sif_pos (by rw [le3_ok (by omega) (by omega)]; exact room_ok (by omega)), Int.toNat_natCast, List.length_replicate]
  have := loop_to k (fun i out => impl_putBytes_l3 n (k : Int) (i : Int) out) (fun _ _ => some (toB (leB n k))) (fun i out => out = leB n i ++ List.replicate (k - i) 0) (fun out ho => by
      rw [impl_putBytes_l3_eq, sif_f (by omega), ho]; simp)
    (fun i out hi ho ih => by
      have hlen : out.length = k := by rw [ho, List.length_append, leB_len, List.length_replicate]; omega
      rw [impl_putBytes_l3_eq, sif_t (by omega), wi64_id (n := 8 * (i : Int)) (by omega) (by omega), sif_f (by omega), sif_pos (lt3_ok (by omega) (by omega)), wi64_add1 (by omega), Int.toNat_natCast]
      refine ih _ ?_
      rw [ho, show min (8 * (i : Int)).toNat 64 = 8 * i by omega]
      have e1 : k - i = (k - (i + 1)) + 1 := by omega
      rw [e1, List.replicate_succ, List.set_append_right _ _ (by rw [leB_len]; exact Nat.le_refl _), leB_len, Nat.sub_self, List.set_cons_zero]
      unfold leB
      rw [List.range_succ, List.map_append, List.append_assoc]; rfl) 0 (List.replicate k 0) (by omega) (by simp [leB])
  simpa using this
theorem spec_l01Bytes_some (n : Int) (k : Nat) (hk : k ≤ 8) : spec_l01Bytes n (k : Int) = some (toB (leB n k)) := by
  rw [spec_l01Bytes_eq]
  have := loop_to k (fun i out => spec_l01Bytes_l3 n (k : Int) (i : Int) out) (fun _ _ => some (toB (leB n k))) (fun i out => out = leB n i) (fun out ho => by
      rw [spec_l01Bytes_l3_eq, sif_f (by omega), ho])
    (fun i out hi ho ih => by
      have hlen : out.length = i := by rw [ho, leB_len]
      rw [spec_l01Bytes_l3_eq, sif_t (by omega), wu64_id (n := (i : Int)) (by omega) (by omega), wu64_id (by omega) (by omega), sif_f (by omega), sif_pos (room_ok (by omega)), wi64_add1 (by omega)]
      refine ih _ ?_
      rw [ho, show min (8 * (i : Int)).toNat 64 = 8 * i by omega, wu8_and]
      unfold leB
      rw [List.range_succ, List.map_append]; rfl) 0 [] (by omega) rfl
  simpa using this
theorem rep7 : repeatB (bs [0]) 7 = some (toB (List.replicate 7 0)) := by rfl
theorem impl_padded_some (l : List Int) (h : l.length = 25) : impl_padded (toB l) 32 = some (toB (l ++ List.replicate 7 0)) := by
  rw [impl_padded_eq, toB_size, h, wi64_id (by omega) (by omega), show (32 - ((25 : Nat) : Int)) = 7 from rfl, impl_zeros_eq, strings_Repeat_eq, rep7, sbind_some, sbind_some, sif_pos (joinsT (by simp; omega)), toB_append]
theorem spec_l01Pad_some (l : List Int) (h : l.length = 25) : spec_l01Pad (toB l) 32 = some (toB (l ++ List.replicate 7 0)) := by
  rw [spec_l01Pad_eq, toB_size, h, sif_f (by omega), wi64_id (by omega) (by omega), show (32 - ((25 : Nat) : Int)) = 7 from rfl, sif_pos (by decide), sif_pos (joinsT (by simp; omega)), toB_append]
  rfl
theorem bsA : bs [65, 82, 82, 83] = toB [65, 82, 82, 83] := rfl
theorem impl_encode_some (b l q t : Int) : impl_Super_encode b l q t = some (toB (encI b l q t)) := by
  have e1 := impl_putBytes_some 1 1 (by omega); have e2 := impl_putBytes_some b 2 (by omega); have e3 := impl_putBytes_some l 2 (by omega); have e4 := impl_putBytes_some q 8 (by omega); have e5 := impl_putBytes_some t 8 (by omega)
  have hp := impl_padded_some (halfI b l q t) (halfI_len b l q t)
  unfold halfI at hp
  rw [impl_Super_encode_eq, show impl_putBytes 1 1 = _ from e1, show impl_putBytes b 2 = _ from e2, show impl_putBytes l 2 = _ from e3, show impl_putBytes q 8 = _ from e4, show impl_putBytes t 8 = _ from e5]
  simp only [sbind_some, bsA, toB_append]
  rw [sif_pos (joinsT (by simp [leB_len])), sif_pos (joinsT (by simp [leB_len])), sif_pos (joinsT (by simp [leB_len])), sif_pos (joinsT (by simp [leB_len])), sif_pos (joinsT (by simp [leB_len])), hp, sbind_some, sif_pos (joinsT (by simp [leB_len])), toB_append]
  rfl
theorem spec_encode_some (b l q t : Int) : spec_l10Encode b l q t = some (toB (encI b l q t)) := by
  have e1 := spec_l01Bytes_some 1 1 (by omega); have e2 := spec_l01Bytes_some b 2 (by omega); have e3 := spec_l01Bytes_some l 2 (by omega); have e4 := spec_l01Bytes_some q 8 (by omega); have e5 := spec_l01Bytes_some t 8 (by omega)
  have hp := spec_l01Pad_some (halfI b l q t) (halfI_len b l q t)
  unfold halfI at hp
  rw [spec_l10Encode_eq, show spec_l01Bytes 1 1 = _ from e1, show spec_l01Bytes b 2 = _ from e2, show spec_l01Bytes l 2 = _ from e3, show spec_l01Bytes q 8 = _ from e4, show spec_l01Bytes t 8 = _ from e5]
  simp only [sbind_some, bsA, toB_append]
  rw [sif_pos (joinsT (by simp [leB_len])), sif_pos (joinsT (by simp [leB_len])), sif_pos (joinsT (by simp [leB_len])), sif_pos (joinsT (by simp [leB_len])), sif_pos (joinsT (by simp [leB_len])), hp, sbind_some, sif_pos (joinsT (by simp [leB_len])), toB_append]
  rfl
/-! reading numbers -/
theorem impl_getBits_some (m : List Int) (hm : inB m) (h8 : m.length ≤ 8) : impl_getBits (toB m) = some (leN m) := by
  rw [impl_getBits_eq, toB_size]
  have := loop_to m.length (fun i n => impl_getBits_l3 (toB m) n (m.length : Int) (i : Int)) (fun _ _ => some (leN m)) (fun i n => n = leN (m.take i)) (fun n hn => by
      rw [impl_getBits_l3_eq, sif_f (by omega), hn, List.take_length])
    (fun i n hi hn ih => by
      have hb := hm _ (List.getElem_mem hi)
      have h0 := leN_ge (inB_take hm i)
      have h1 := leN_lt (inB_take hm i)
      rw [List.length_take, show min i m.length = i by omega] at h1
      rw [impl_getBits_l3_eq, sif_t (by omega), bidx_toB hm (by omega), Int.toNat_natCast, List.getElem?_eq_getElem hi, sbind_some, sif_f (by rw [wi64_id (by omega) (by omega)]; omega), or_step (by omega) (by omega) (by omega) hb.1 hb.2, wi64_add1 (by omega)]
      refine ih _ ?_
      rw [hn, List.take_succ_eq_append_getElem hi, leN_append, List.length_take, show min i m.length = i by omega]
      simp [leN]) 0 0 (by omega) rfl
  simpa using this
theorem impl_number_some (l : List Int) (hl : inB l) (k : Nat) (hk : k ≤ 8) (h : k ≤ l.length) (hn : l.length ≤ 1048576) (bad : Bool) : impl_decoder_number_w (k : Int) (toB l) bad = some (wi64 (leN (l.take k)), toB (l.drop k), bad) := by
  rw [impl_decoder_number_w_eq, impl_decoder_take_w_eq, impl_cut_eq, toB_size, sif_f (by omega), impl_within_inr, sbind_some, wi64_id (n := (l.length : Int) - k) (by omega) (by omega), show inr 0 0 ((l.length : Int) - k) = true by rw [inr_iff]; omega, Bool.not_true, sif_false, wi64_id (n := 0 + (k : Int)) (by omega) (by omega), sif_pos (le3_ok (by omega) (by omega)), sif_pos (le3_ok (by omega) (by omega)), sbind_some]
  dsimp only
  rw [Bool.not_true, sif_false, sif_pos (le3_ok (by omega) (by omega)), sbind_some]
  dsimp only
  have e1 : (0 + (k : Int)).toNat = k := by omega
  rw [e1, Int.toNat_natCast, extract_toB, extract_toB, List.take_length]
  have e2 : (0 : Int).toNat = 0 := rfl
  rw [e2, List.drop_zero, impl_getBits_some (l.take k) (inB_take hl k) (by rw [List.length_take]; omega), sbind_some]
theorem top_small {m : List Int} (hm : inB m) (h8 : m.length = 8) : (m[7]? : Option Int).getD 0 ≤ 127 → leN m ≤ 9223372036854775807 := by
  intro ht
  match m, h8 with
  | [a, b, c, d, e, f, g, h], _ =>
    have h0 := hm a (by simp); have h1 := hm b (by simp); have h2 := hm c (by simp); have h3 := hm d (by simp); have h4 := hm e (by simp); have h5 := hm f (by simp); have h6 := hm g (by simp)
    simp at ht
    simp only [leN]; omega
theorem top_big {m : List Int} (hm : inB m) (h8 : m.length = 8) : 127 < (m[7]? : Option Int).getD 0 → wi64 (leN m) < 0 := by
  intro ht
  match m, h8 with
  | [a, b, c, d, e, f, g, h], _ =>
    have h0 := hm a (by simp); have h1 := hm b (by simp); have h2 := hm c (by simp); have h3 := hm d (by simp); have h4 := hm e (by simp); have h5 := hm f (by simp); have h6 := hm g (by simp); have h7 := hm h (by simp)
    simp at ht
    have hN : leN [a, b, c, d, e, f, g, h] = a + 256 * (b + 256 * (c + 256 * (d + 256 * (e + 256 * (f + 256 * (g + 256 * (h + 256 * 0))))))) := rfl
    rw [wi64_def, if_pos (by omega)]; omega
/-! superD -/
def fld (l : List Int) (a k : Nat) : Int := leN ((l.drop a).take k)
def topOk (l : List Int) (a : Nat) : Bool := decide (((((l.drop a).take 8))[7]? : Option Int).getD 0 ≤ 127)
open Classical in
noncomputable def decM (l : List Int) : Int × Int × Int × Int × Bool :=
  if l.length = 64 ∧ topOk l 9 = true ∧ topOk l 17 = true ∧ vS (fld l 5 2) (fld l 7 2) (fld l 9 8) (fld l 17 8) = true ∧ encI (fld l 5 2) (fld l 7 2) (fld l 9 8) (fld l 17 8) = l then (fld l 5 2, fld l 7 2, fld l 9 8, fld l 17 8, true) else (0, 0, 0, 0, false)
theorem small2 {l : List Int} (hl : inB l) (a : Nat) : 0 ≤ leN ((l.drop a).take 2) ∧ leN ((l.drop a).take 2) < 65536 := by
  have h1 := leN_ge (inB_take (inB_drop hl a) 2)
  have h2 := leN_lt (inB_take (inB_drop hl a) 2)
  have h3 : (256 : Int) ^ ((l.drop a).take 2).length ≤ 256 ^ 2 := by
    have : (256 : Nat) ^ ((l.drop a).take 2).length ≤ 256 ^ 2 := Nat.pow_le_pow_right (by decide) (by rw [List.length_take]; omega)
    exact_mod_cast this
  omega
theorem seq_toB {a b : List Int} (ha : inB a) (hb : inB b) : seq (toB a) (toB b) = decide (a = b) := by
  rw [seq_eq, Bool.eq_iff_iff]
  simp only [decide_eq_true_eq]
  exact ⟨toB_inj ha hb, fun h => by rw [h]⟩
theorem impl_DecodeSuper_some (l : List Int) (hl : inB l) (hn : l.length ≤ 1048576) : impl_DecodeSuper (toB l) = some (decM l) := by
  rw [impl_DecodeSuper_eq, impl_isBlock_eq, sbind_some, toB_size]
  unfold decM
  by_cases h64 : l.length = 64
  · have e2 := impl_number_some (l.drop 5) (inB_drop hl 5) 2 (by omega) (by rw [List.length_drop]; omega) (by rw [List.length_drop]; omega) false
    have e3 := impl_number_some (l.drop 7) (inB_drop hl 7) 2 (by omega) (by rw [List.length_drop]; omega) (by rw [List.length_drop]; omega) false
    have e4 := impl_number_some (l.drop 9) (inB_drop hl 9) 8 (by omega) (by rw [List.length_drop]; omega) (by rw [List.length_drop]; omega) false
    have e5 := impl_number_some (l.drop 17) (inB_drop hl 17) 8 (by omega) (by rw [List.length_drop]; omega) (by rw [List.length_drop]; omega) false
    rw [List.drop_drop] at e2 e3 e4 e5
    have s2 := small2 hl 5
    have s3 := small2 hl 7
    rw [wi64_id (by omega) (by omega)] at e2 e3
    have hx : (toB l).extract 5 l.length = toB (l.drop 5) := by rw [extract_toB, List.take_length]
    rw [show ((l.length : Int) == 64) = true by rw [beq_iff_eq]; omega, Bool.not_true, sif_false, sif_pos (le3_ok (by omega) (by omega))]
    rw [hx, show impl_decoder_number_w 2 (toB (l.drop 5)) false = _ from e2, sbind_some]
    dsimp only
    rw [show impl_decoder_number_w 2 (toB (l.drop (5 + 2))) false = _ from e3, sbind_some]
    dsimp only
    rw [show impl_decoder_number_w 8 (toB (l.drop (7 + 2))) false = _ from e4, sbind_some]
    dsimp only
    rw [show impl_decoder_number_w 8 (toB (l.drop (9 + 8))) false = _ from e5, sbind_some]
    dsimp only
    rw [impl_ValidSuper_some, sbind_some, impl_encode_some, sbind_some, seq_toB (encI_in _ _ _ _) hl]
    have h8a : ((l.drop 9).take 8).length = 8 := by rw [List.length_take, List.length_drop]; omega
    have h8b : ((l.drop 17).take 8).length = 8 := by rw [List.length_take, List.length_drop]; omega
    have ga := leN_ge (inB_take (inB_drop hl 9) 8)
    have gb := leN_ge (inB_take (inB_drop hl 17) 8)
    by_cases ta : topOk l 9 = true
    · have ta' := ta
      unfold topOk at ta'
      rw [decide_eq_true_eq] at ta'
      have := top_small (inB_take (inB_drop hl 9) 8) h8a ta'
      rw [wi64_id (n := leN ((l.drop 9).take 8)) (by omega) (by omega)]
      by_cases tb : topOk l 17 = true
      · have tb' := tb
        unfold topOk at tb'
        rw [decide_eq_true_eq] at tb'
        have := top_small (inB_take (inB_drop hl 17) 8) h8b tb'
        rw [wi64_id (n := leN ((l.drop 17).take 8)) (by omega) (by omega)]
        by_cases hv : vS (leN ((l.drop 5).take 2)) (leN ((l.drop 7).take 2)) (leN ((l.drop 9).take 8)) (leN ((l.drop 17).take 8)) = true
        · rw [hv, Bool.not_true, sif_false]
          by_cases hE : encI (leN ((l.drop 5).take 2)) (leN ((l.drop 7).take 2)) (leN ((l.drop 9).take 8)) (leN ((l.drop 17).take 8)) = l
          · rw [decide_eq_true hE, Bool.not_true, sif_false, if_pos ⟨h64, ta, tb, hv, hE⟩]; rfl
          · rw [decide_eq_false hE, Bool.not_false, sif_true, if_neg (fun h => hE h.2.2.2.2)]
        · rw [(by simpa using hv : vS _ _ _ _ = false), Bool.not_false, sif_true, if_neg (fun h => hv h.2.2.2.1)]
      · have hneg := top_big (inB_take (inB_drop hl 17) 8) h8b (by unfold topOk at tb; rw [decide_eq_true_eq] at tb; omega)
        have hv : ∀ a b c, vS a b c (wi64 (leN ((l.drop 17).take 8))) = false := fun a b c => by
          rw [← Bool.not_eq_true, vS_iff]; omega
        rw [hv, Bool.not_false, sif_true, if_neg (fun h => tb h.2.2.1)]
    · have hneg := top_big (inB_take (inB_drop hl 9) 8) h8a (by unfold topOk at ta; rw [decide_eq_true_eq] at ta; omega)
      have hv : ∀ a b c, vS a b (wi64 (leN ((l.drop 9).take 8))) c = false := fun a b c => by
        rw [← Bool.not_eq_true, vS_iff]; omega
      rw [hv, Bool.not_false, sif_true, if_neg (fun h => ta h.2.1)]
  · rw [if_neg (fun h => h64 h.1), show ((l.length : Int) == 64) = false by rw [beq_eq_false_iff_ne]; omega, Bool.not_false, sif_true]
theorem decM_enc {b l q t : Int} (hv : vS b l q t = true) : decM (encI b l q t) = (b, l, q, t, true) := by
  have hv' := hv
  rw [vS_iff] at hv'
  have e1 : fld (encI b l q t) 5 2 = b := by
    have : ((encI b l q t).drop 5).take 2 = leB b 2 := rfl
    unfold fld; rw [this, leN_leB 2 b (by omega) (by omega)]
  have e2 : fld (encI b l q t) 7 2 = l := by
    have : ((encI b l q t).drop 7).take 2 = leB l 2 := rfl
    unfold fld; rw [this, leN_leB 2 l (by omega) (by omega)]
  have e3 : fld (encI b l q t) 9 8 = q := by
    have : ((encI b l q t).drop 9).take 8 = leB q 8 := rfl
    unfold fld; rw [this, leN_leB 8 q (by omega) (by omega)]
  have e4 : fld (encI b l q t) 17 8 = t := by
    have : ((encI b l q t).drop 17).take 8 = leB t 8 := rfl
    unfold fld; rw [this, leN_leB 8 t (by omega) (by omega)]
  have top : ∀ n : Int, 0 ≤ n → n ≤ 1000000000000 → ((leB n 8)[7]? : Option Int).getD 0 ≤ 127 := fun n h0 h1 => by
    have : (leB n 8)[7]? = some (wu8 (Int.fdiv n (2 ^ 56))) := rfl
    rw [this, Option.getD_some, Int.fdiv_eq_ediv_of_nonneg _ (by decide), wu8_def]; omega
  have t1 : topOk (encI b l q t) 9 = true := by
    have : ((encI b l q t).drop 9).take 8 = leB q 8 := rfl
    unfold topOk; rw [this, decide_eq_true_eq]; exact top q (by omega) (by omega)
  have t2 : topOk (encI b l q t) 17 = true := by
    have : ((encI b l q t).drop 17).take 8 = leB t 8 := rfl
    unfold topOk; rw [this, decide_eq_true_eq]; exact top t (by omega) (by omega)
  unfold decM
  rw [e1, e2, e3, e4, if_pos ⟨encI_len _ _ _ _, t1, t2, hv, rfl⟩]
/-! srcL -/
theorem srcNext_some (c : List Int) (at_ seed : Int) (hc : inB c) (h0 : 0 ≤ at_) (h1 : at_ ≤ 4611686018427387904) : ∃ x seed', spec_l00Src_next_wd c at_ seed = some (x, c, at_ + 1, seed') ∧ 0 ≤ x ∧ x ≤ 255 := by
  rw [spec_l00Src_next_wd_eq, wi64_id (n := at_ + 1) (by omega) (by omega)]
  by_cases h : at_ < (c.length : Int)
  · have hl : at_.toNat < c.length := by omega
    have hx := hc _ (List.getElem_mem hl)
    rw [sif_t h, idx_int h0, List.getElem?_eq_getElem hl, sbind_some, wi64_id (by omega) (by omega), sif_t (by omega)]
    exact ⟨_, _, rfl, hx.1, hx.2⟩
  · rw [sif_f h]
    by_cases h2 : at_ + 1 ≤ (c.length : Int)
    · rw [sif_t h2]; exact ⟨_, _, rfl, by omega, by omega⟩
    · rw [sif_f h2]
      refine ⟨_, _, rfl, ?_⟩
      obtain ⟨b1, b2⟩ := bits_and_u64 (Int.fdiv (wu64 ((wu64 ((wu64 (seed * 6364136223846793005)) + 0)) + 1442695040888963407)) (2 ^ 40))
      rw [wi64_id (by omega) (by omega)]
      exact ⟨b1, b2⟩
theorem srcPick_some (n : Int) (c : List Int) (at_ seed : Int) (hc : inB c) (h0 : 0 ≤ at_) (h1 : at_ ≤ 4611686018427387900) (hn : n ≤ 65536) : ∃ x at' seed', spec_l00Src_pick_wd n c at_ seed = some (x, c, at', seed') ∧ 0 ≤ x ∧ (1 ≤ n → x < n) ∧ (n ≤ 1 → x = 0) ∧ at_ ≤ at' ∧ at' ≤ at_ + 2 := by
  rw [spec_l00Src_pick_wd_eq]
  by_cases h : n ≤ 1
  · rw [sif_t h]; exact ⟨_, _, _, rfl, by omega, by omega, by omega, by omega, by omega⟩
  · obtain ⟨x, s1, e1, x0, x1⟩ := srcNext_some c at_ seed hc h0 (by omega)
    rw [sif_f h, e1, sbind_some]
    by_cases h2 : n > 200
    · obtain ⟨y, s2, e2, y0, y1⟩ := srcNext_some c (at_ + 1) s1 hc (by omega) (by omega)
      rw [sif_t h2]
      dsimp only
      rw [e2, sbind_some, sif_f (by omega), wi64_id (n := x * 256) (by omega) (by omega), wi64_id (n := x * 256 + y) (by omega) (by omega)]
      have m0 := Int.tmod_nonneg n (show 0 ≤ x * 256 + y by omega)
      have m1 := Int.tmod_lt_of_pos (x * 256 + y) (show 0 < n by omega)
      exact ⟨_, at_ + 1 + 1, s2, rfl, m0, fun _ => m1, by omega, by omega, by omega⟩
    · rw [sif_f h2, sif_f (by omega)]
      have m0 := Int.tmod_nonneg n x0
      have m1 := Int.tmod_lt_of_pos x (show 0 < n by omega)
      exact ⟨_, at_ + 1, s1, rfl, m0, fun _ => m1, by omega, by omega, by omega⟩
theorem wu8_inB (n : Int) : 0 ≤ wu8 n ∧ wu8 n ≤ 255 := by rw [wu8_def]; omega
theorem toB_len (l : List Int) : (toB l).size = l.length := toB_size l
/-! srcM -/
theorem srcOne_some (n : Int) (c : List Int) (at_ seed : Int) (hc : inB c) (h0 : 0 ≤ at_) (h1 : at_ ≤ 4611686018427387900) (hn : n ≤ 65536) : ∃ b at' seed', spec_l00Src_one_wd n c at_ seed = some (b, c, at', seed') ∧ at_ ≤ at' ∧ at' ≤ at_ + 2 := by
  obtain ⟨x, a, s, e, _, _, _, a0, a1⟩ := srcPick_some n c at_ seed hc h0 h1 hn
  rw [spec_l00Src_one_wd_eq, e, sbind_some]
  exact ⟨_, _, _, rfl, a0, a1⟩
/-! srcA -/
theorem srcAmong_some (l : List Int) (hl0 : l ≠ []) (hl : l.length ≤ 65536) (c : List Int) (at_ seed : Int) (hc : inB c) (h0 : 0 ≤ at_) (h1 : at_ ≤ 4611686018427387900) : ∃ x at' seed', spec_l00Src_among_wdd l c at_ seed = some (x, c, at', seed') ∧ x ∈ l ∧ at_ ≤ at' ∧ at' ≤ at_ + 2 := by
  have hpos : 0 < l.length := List.length_pos_iff.2 hl0
  obtain ⟨x, a, s, e, x0, x1, _, a0, a1⟩ := srcPick_some (l.length : Int) c at_ seed hc h0 h1 (by omega)
  have hx := x1 (by omega)
  have hlt : x.toNat < l.length := by omega
  rw [spec_l00Src_among_wdd_eq, e, sbind_some]
  dsimp only
  rw [idx_int x0, List.getElem?_eq_getElem hlt, sbind_some]
  exact ⟨_, _, _, rfl, List.getElem_mem hlt, a0, a1⟩
/-! FnSuperText -/
theorem l10Draw_some (n : Int) (hn : n ≤ 200) (c : List Int) (hc : inB c) : ∃ b l q t at' seed', spec_l10Draw_wd n c 0 0 = some (b, l, q, t, c, at', seed') ∧ 0 ≤ at' ∧ at' ≤ 100 := by
  obtain ⟨x1, a1, s1, e1, _, p1, q1⟩ := srcAmong_some [16, 40, 64, 256, 20] (by decide) (by decide) c 0 0 hc (by omega) (by omega)
  obtain ⟨x2, a2, s2, e2, _, _, _, p2, q2⟩ := srcPick_some 5 c a1 s1 hc (by omega) (by omega) (by omega)
  obtain ⟨x3, a3, s3, e3, _, _, _, p3, q3⟩ := srcPick_some 30 c a2 s2 hc (by omega) (by omega) (by omega)
  obtain ⟨x4, a4, s4, e4, _, _, _, p4, q4⟩ := srcPick_some 9 c a3 s3 hc (by omega) (by omega) (by omega)
  obtain ⟨x5, a5, s5, e5, p5, q5⟩ := srcOne_some 6 c a4 s4 hc (by omega) (by omega) (by omega)
  obtain ⟨x6, a6, s6, e6, p6, q6⟩ := srcOne_some n c a5 s5 hc (by omega) (by omega) (by omega)
  obtain ⟨x7, a7, s7, e7, _, _, _, p7, q7⟩ := srcPick_some 4 c a6 s6 hc (by omega) (by omega) (by omega)
  obtain ⟨y0, b0, t0, f0, _, u0, v0⟩ := srcAmong_some [15, 257, 0, 16] (by decide) (by decide) c a7 s7 hc (by omega) (by omega)
  obtain ⟨y1, b1, t1, f1, _, u1, v1⟩ := srcAmong_some [7, 65, wi64 (x1 - 4), wi64 (x1 - 3)] (by simp) (by simp) c a7 s7 hc (by omega) (by omega)
  obtain ⟨y2, b2, t2, f2, _, u2, v2⟩ := srcAmong_some [-1, 1000000000001] (by decide) (by decide) c a7 s7 hc (by omega) (by omega)
  obtain ⟨y3, b3, t3, f3, _, u3, v3⟩ := srcAmong_some [-1, 1000000000001, 1000000000000] (by decide) (by decide) c a7 s7 hc (by omega) (by omega)
  rw [spec_l10Draw_wd_eq]
  simp only [e1, e2, e3, e4, e5, e6, e7, f0, f1, f2, f3, sbind_some]
  cases x5 <;> cases x6 <;> simp only [sif_true, sif_false]
  · exact ⟨_, _, _, _, _, _, rfl, by omega, by omega⟩
  · cases (x7 == 0) <;> cases (x7 == 1) <;> cases (x7 == 2) <;> simp only [sif_true, sif_false] <;> exact ⟨_, _, _, _, _, _, rfl, by omega, by omega⟩
  · exact ⟨_, _, _, _, _, _, rfl, by omega, by omega⟩
  · cases (x7 == 0) <;> cases (x7 == 1) <;> cases (x7 == 2) <;> simp only [sif_true, sif_false] <;> exact ⟨_, _, _, _, _, _, rfl, by omega, by omega⟩
theorem inB_one (n : Int) : inB [wu8 n] := fun x hx => by rw [List.mem_singleton.1 hx]; exact wu8_inB n
theorem spec_DrawDecodeSuper_some (c : List Int) (hc : inB c) : ∃ l, spec_DrawDecodeSuper c = some (toB l) ∧ inB l ∧ l.length ≤ 100 := by
  obtain ⟨b, l, q, t, a2, s2, e2, p2, q2⟩ := l10Draw_some 6 (by omega) c hc
  have hE := encI_in b l q t
  have hL := encI_len b l q t
  obtain ⟨x4, a4, s4, e4, p4, q4⟩ := srcOne_some 2 c a2 s2 hc (by omega) (by omega) (by omega)
  obtain ⟨x5, a5, s5, e5, r0, r1, _, p5, q5⟩ := srcPick_some 64 c a4 s4 hc (by omega) (by omega) (by omega)
  obtain ⟨x6, a6, s6, e6, p6, q6⟩ := srcOne_some 4 c a5 s5 hc (by omega) (by omega) (by omega)
  obtain ⟨x7, s7, e7, _, _⟩ := srcNext_some c a6 s6 hc (by omega) (by omega)
  obtain ⟨x8, a8, s8, e8, _, _⟩ := srcOne_some 2 c (a6 + 1) s7 hc (by omega) (by omega) (by omega)
  have r1 := r1 (by omega)
  rw [spec_DrawDecodeSuper_eq, spec_l00From_eq]
  simp only [sbind_some, e2, spec_encode_some, e4, toB_size, hL]
  rw [show (((64 : Nat)) : Int) = 64 from rfl]
  simp only [e5, e6, e7, e8, sbind_some]
  cases x4 with
  | true => exact ⟨_, rfl, hE, by omega⟩
  | false =>
    rw [sif_false]
    cases x6 with
    | true => rw [sif_true, sif_pos (le3_ok r0 (by omega)), extract_toB]; exact ⟨_, rfl, inB_drop (inB_take hE _) _, by simp; omega⟩
    | false =>
      rw [sif_false, sif_pos (le3_ok r0 (by omega)), wi64_id (n := x5 + 1) (by omega) (by omega)]
      simp only [extract_toB, toB_append]
      rw [sif_pos (joinsT (by simp; omega)), sif_pos (le3_ok (by omega) (by omega)), sif_pos (joinsT (by simp; omega))]
      have hU : inB (List.drop 0 (List.take x5.toNat (encI b l q t)) ++ [wu8 x7] ++ List.drop (x5 + 1).toNat (List.take 64 (encI b l q t))) := inB_append (inB_append (inB_drop (inB_take hE _) _) (inB_one _)) (inB_drop (inB_take hE _) _)
      have hUl : (List.drop 0 (List.take x5.toNat (encI b l q t)) ++ [wu8 x7] ++ List.drop (x5 + 1).toNat (List.take 64 (encI b l q t))).length = 64 := by simp; omega
      generalize List.drop 0 (List.take x5.toNat (encI b l q t)) ++ [wu8 x7] ++ List.drop (x5 + 1).toNat (List.take 64 (encI b l q t)) = U at hU hUl
      simp only [toB_size, hUl]
      cases x8 with
      | false => exact ⟨U, rfl, hU, by omega⟩
      | true =>
        rw [sif_true, wi64_id (n := x5 + 32) (by omega) (by omega), Int.tmod_eq_emod_of_nonneg (by omega), wi64_id (n := (x5 + 32) % 64 + 1) (by omega) (by omega), sif_pos (le3_ok (by omega) (by omega)), sif_pos (joinsT (by simp; omega)), sif_pos (le3_ok (by omega) (by omega)), sif_pos (joinsT (by simp; omega))]
        exact ⟨_, rfl, inB_append (inB_append (inB_drop (inB_take hU _) _) (inB_one _)) (inB_drop (inB_take hU _) _), by simp; omega⟩
theorem impl_EncodeSuper_some (b l q t : Int) : impl_EncodeSuper b l q t = some (if vS b l q t = true then toB (encI b l q t) else bs []) := by
  rw [impl_EncodeSuper_eq, impl_ValidSuper_some, sbind_some, impl_encode_some, sbind_some]
  cases vS b l q t <;> rfl
theorem decM_ok {l : List Int} (h : (decM l).2.2.2.2 = true) : vS (decM l).1 (decM l).2.1 (decM l).2.2.1 (decM l).2.2.2.1 = true ∧ encI (decM l).1 (decM l).2.1 (decM l).2.2.1 (decM l).2.2.2.1 = l := by
  unfold decM at h ⊢
  split
  · next h1 => exact h1.2.2.2
  · next h1 => rw [if_neg h1] at h; cases h
theorem tail_some (m : List Int) (hm : inB m) (hl : m.length ≤ 100) : (sbind (impl_DecodeSuper (toB m)) fun r6 => sif (!r6.2.2.2.2) (some true) <| sbind (spec_ValidSuper r6.1 r6.2.1 r6.2.2.1 r6.2.2.2.1) fun r7 => sif (r7) (sbind (impl_EncodeSuper r6.1 r6.2.1 r6.2.2.1 r6.2.2.2.1) fun r8 => some (seq r8 (toB m))) (some false)) = some true := by
  rw [impl_DecodeSuper_some m hm (by omega), sbind_some]
  cases h : (decM m).2.2.2.2 with
  | false => rfl
  | true =>
    obtain ⟨h1, h2⟩ := decM_ok h
    rw [Bool.not_true, sif_false, spec_ValidSuper_some, h1, sbind_some, sif_true, impl_EncodeSuper_some, sbind_some, if_pos h1, h2, seq_self]
theorem pure_FnSuperText (code : List Int) (more : List Int) (O0 : code.length ≤ maxLen ∧ code.length * 1 ≤ 140737488351232 ∧ ∀ e_ ∈ code, (Lit.int .u8 e_).wf = true) (O1 : more.length ≤ maxLen ∧ more.length * 1 ≤ 140737488351232 ∧ ∀ e_ ∈ more, (Lit.int .u8 e_).wf = true) : laws_FnSuperText code more = some true := by
  have hc : inB code := fun x hx => wf8 (O0.2.2 x hx)
  have hm : inB more := fun x hx => wf8 (O1.2.2 x hx)
  obtain ⟨m, em, m1, m2⟩ := spec_DrawDecodeSuper_some more hm
  obtain ⟨b, l, q, t, a2, s2, e2, p2, q2⟩ := l10Draw_some 5 (by omega) code hc
  rw [laws_FnSuperText_eq, laws_b10Long_eq, laws_b10Long_eq, sbind_some, sbind_some]
  by_cases h1 : (code.length : Int) > 1048576
  · rw [sif_t h1]
  · rw [sif_f h1]
    by_cases h2 : (more.length : Int) > 1048576
    · rw [sif_t h2]
    · rw [sif_f h2, spec_DrawEncodeSuper_eq, spec_l00From_eq, sbind_some, e2, sbind_some, sbind_some]
      dsimp only
      rw [spec_ValidSuper_some, sbind_some, em]
      simp only [sbind_some]
      cases hv : vS b l q t with
      | true =>
        rw [sif_true, impl_EncodeSuper_some, sbind_some, if_pos hv, impl_DecodeSuper_some _ (encI_in _ _ _ _) (by rw [encI_len]; omega), decM_enc hv, sbind_some]
        simp only [Bool.not_true, sif_false, beq_self_eq_true, Bool.and_true]
        exact tail_some m m1 m2
      | false =>
        rw [sif_false]
        exact tail_some m m1 m2
end Go.Ve.X
