/- Plain lemmas on whole numbers, bytes and strings that this seat's pure statements share. No condition. -/
import Derived.Test.YtejjlklecmdpiaaZFnHeapMore
namespace Go.Proofs.Ytejjlklecmdpiaa.Kit
open Go.RowKit Go.Proofs.YtejjlklecmdpiaaW.PrintWords

/-- 'Option.bind_some', but no equation by 'rfl': the kernel would compare the two sides by unfolding. -/
theorem obind {α β : Type} (a : α) (f : α → Option β) : (some a).bind f = f a := of_eq_true (eq_self (f a))
theorem w64 {x : Int} (h0 : -9223372036854775808 ≤ x) (h1 : x ≤ 9223372036854775807) : wrap64 x = x := by unfold wrap64; omega
theorem bd64 {x : Int} (h : (Lit.int .i64 x).wf = true) : -9223372036854775808 ≤ x ∧ x ≤ 9223372036854775807 := by
  simp [Lit.wf, IntKind.min, IntKind.max, IntKind.signed, IntKind.bits] at h
  omega
theorem ite_and (p q : Prop) [Decidable p] [Decidable q] : (if p then some (decide q) else some false) = some (decide (p ∧ q)) := by
  by_cases h : p <;> simp [h]
theorem bdu8 {x : Int} (h : (Lit.int .u8 x).wf = true) : 0 ≤ x ∧ x ≤ 255 := by
  simp [Lit.wf, IntKind.min, IntKind.max, IntKind.signed, IntKind.bits] at h
  omega
theorem wrap64_bd (x : Int) : -9223372036854775808 ≤ wrap64 x ∧ wrap64 x ≤ 9223372036854775807 := by unfold wrap64; omega
theorem wrap64_add (x y : Int) : wrap64 (wrap64 x + y) = wrap64 (x + y) := by unfold wrap64; omega
theorem wrap64_off (x q : Int) : wrap64 (x + 18446744073709551616 * q) = wrap64 x := by unfold wrap64; omega
theorem wrap64_is (x : Int) : ∃ q, wrap64 x = x + 18446744073709551616 * q := ⟨-((x + 9223372036854775808) / 18446744073709551616), by unfold wrap64; omega⟩
theorem wrap64_mul_add (z m l : Int) : wrap64 (wrap64 z * m + l) = wrap64 (z * m + l) := by
  obtain ⟨q, hq⟩ := wrap64_is z
  rw [hq, Int.add_mul, Int.mul_assoc, show z * m + 18446744073709551616 * (q * m) + l = z * m + l + 18446744073709551616 * (q * m) by omega, wrap64_off]
theorem wrap_i64' (x : Int) : IntKind.i64.wrap x = wrap64 x := by unfold wrap64; exact IntKind.wrap_i64 x
theorem wrap_u64 (n : Int) : IntKind.u64.wrap n = n % 18446744073709551616 := by simp [IntKind.wrap, IntKind.bits, IntKind.signed]

/-- The little-endian number of n bytes from 'at' on. -/
def le (s : ByteArray) (a : Int) : Nat → Int
  | 0 => 0
  | n + 1 => le s a n + bt s (a + n) * 256 ^ n

theorem le_bd (s : ByteArray) (a : Int) : ∀ n, 0 ≤ le s a n ∧ le s a n < 256 ^ n
  | 0 => by simp [le]
  | n + 1 => by
    obtain ⟨h0, h1⟩ := le_bd s a n
    obtain ⟨b0, b1⟩ := bt_range s (a + n)
    have hp : (0 : Int) < 256 ^ n := Int.pow_pos (by decide)
    have h2 : 0 ≤ bt s (a + n) * 256 ^ n := Int.mul_nonneg b0 (by omega)
    have h3 : bt s (a + n) * 256 ^ n ≤ 255 * 256 ^ n := Int.mul_le_mul_of_nonneg_right b1 (by omega)
    simp only [le, Int.pow_succ]
    omega

theorem size_extract (s : ByteArray) (a b : Nat) (hb : b ≤ s.size) : (s.extract a b).size = b - a := by
  simp [ByteArray.size_extract]; omega
theorem bt_extract (s : ByteArray) (a b : Nat) (i : Int) (h0 : 0 ≤ i) (hi : i < (b : Int) - a) (hb : b ≤ s.size) : bt (s.extract a b) i = bt s (a + i) := by
  unfold bt
  have h1 : i.toNat < (s.extract a b).size := by rw [size_extract s a b hb]; omega
  have h2 : ((a : Int) + i).toNat < s.size := by omega
  rw [dif_pos h1, dif_pos h2]
  simp only [ByteArray.getElem_extract]
  simp only [show ((a : Int) + i).toNat = a + i.toNat by omega]
theorem le_extract (s : ByteArray) (a b : Nat) (hb : b ≤ s.size) : ∀ n : Nat, a + n ≤ b → le (s.extract a b) 0 n = le s a n
  | 0, _ => rfl
  | n + 1, h => by
    simp only [le]
    rw [le_extract s a b hb n (by omega), Int.zero_add, bt_extract s a b n (by omega) (by omega) hb]

theorem or_disj (n : Nat) (x y : Int) (i : Nat) (hx : x % 2 ^ i = 0) (hy0 : 0 ≤ y) (hy : y < 2 ^ i) :
    BitVec.ofInt n x ||| BitVec.ofInt n y = BitVec.ofInt n (x + y) := by
  obtain ⟨m, rfl⟩ := Int.dvd_of_emod_eq_zero hx
  obtain ⟨b, rfl⟩ := Int.eq_ofNat_of_zero_le hy0
  have hb : b < 2 ^ i := by exact_mod_cast hy
  have e : BitVec.ofInt n (2 ^ i * m) = BitVec.ofInt n m <<< i := by
    rw [BitVec.shiftLeft_eq_mul_twoPow, BitVec.ofInt_mul, BitVec.mul_comm]
    congr 1
    rw [show ((2 : Int) ^ i) = ((2 ^ i : Nat) : Int) by simp, BitVec.ofInt_natCast]
    apply BitVec.eq_of_toNat_eq
    simp [BitVec.toNat_twoPow]
  rw [BitVec.ofInt_add, e]
  symm
  apply BitVec.add_eq_or_of_and_eq_zero
  ext j hj
  simp
  intro h1 _
  simp only [← BitVec.getLsbD_eq_getElem, BitVec.getLsbD_ofNat, hj, decide_true, Bool.true_and]
  exact Nat.testBit_lt_two_pow (Nat.lt_of_lt_of_le hb (Nat.pow_le_pow_right (by decide) h1))
/-- 'x | y' where y lies below x's lowest bit: a sum. -/
theorem bits_or_add (k : IntKind) (x y : Int) (i : Nat) (hx : x % 2 ^ i = 0) (hy0 : 0 ≤ y) (hy : y < 2 ^ i) : Go.bits .or k x y = k.wrap (x + y) := by
  unfold Go.bits
  simp only [or_disj k.bits x y i hx hy0 hy, BitVec.toNat_ofInt]
  cases k <;> simp [IntKind.wrap, IntKind.bits, IntKind.signed] <;> omega
theorem bits_or_comm (k : IntKind) (x y : Int) : Go.bits .or k x y = Go.bits .or k y x := by
  unfold Go.bits
  simp only [BitVec.or_comm]
theorem le_mul_self {a b : Int} (h0 : 0 ≤ a) (h1 : 1 ≤ b) : a ≤ a * b := by
  have := Int.mul_le_mul_of_nonneg_left h1 h0
  omega
theorem pow256 (n : Nat) : (256 : Int) ^ n = 2 ^ (8 * n) := by rw [Int.pow_mul]; rfl
theorem pow_mono {b : Int} (hb : 1 ≤ b) {m n : Nat} (h : m ≤ n) : b ^ m ≤ b ^ n := by
  obtain ⟨d, rfl⟩ := Nat.le.dest h
  rw [Int.pow_add]
  have hd : 0 < b ^ d := Int.pow_pos (by omega)
  exact le_mul_self (Int.pow_nonneg (by omega)) (by omega)
theorem or_shl_byte (x b : Int) (i : Nat) (hi : i < 8) (h0 : 0 ≤ x) (h1 : x < 256 ^ i) (b0 : 0 ≤ b) (b1 : b ≤ 255) :
    Go.bits .or .u64 x (shl .u64 b (8 * (i : Int))) = x + b * 256 ^ i := by
  have hp : (0 : Int) < 256 ^ i := Int.pow_pos (by decide)
  have hm : (256 : Int) ^ i ≤ 256 ^ 7 := pow_mono (by decide) (by omega)
  have hb : b * 256 ^ i ≤ 255 * 256 ^ i := Int.mul_le_mul_of_nonneg_right b1 (by omega)
  have hb0 : 0 ≤ b * 256 ^ i := Int.mul_nonneg b0 (by omega)
  have e : shl .u64 b (8 * (i : Int)) = b * 256 ^ i := by
    unfold shl
    rw [show min (8 * (i : Int)).toNat IntKind.u64.bits = 8 * i by simp [IntKind.bits]; omega, ← pow256, wrap_u64]
    omega
  rw [e, bits_or_comm, bits_or_add .u64 (b * 256 ^ i) x (8 * i) (by rw [← pow256]; exact Int.mul_emod_left _ _) h0 (by rw [← pow256]; exact h1), wrap_u64]
  omega
theorem rd_mem {xs : List Int} {i : Int} (h0 : 0 ≤ i) (h1 : i < xs.length) : rd xs i ∈ xs := by
  have h : i.toNat < xs.length := by omega
  unfold rd
  rw [List.getD_eq_getElem?_getD, List.getElem?_eq_getElem h]
  exact List.getElem_mem h
theorem rd_all {P : Int → Prop} {xs : List Int} (h : ∀ x ∈ xs, P x) (h0 : P 0) (i : Int) : P (rd xs i) := by
  unfold rd
  rw [List.getD_eq_getElem?_getD]
  by_cases hi : i.toNat < xs.length
  · rw [List.getElem?_eq_getElem hi]
    exact h _ (List.getElem_mem hi)
  · rw [List.getElem?_eq_none (by omega)]
    exact h0
theorem bits_and_mask (k : IntKind) (x : Int) (i : Nat) (hi : i ≤ k.bits) : Go.bits .and k x (2 ^ i - 1) = k.wrap (x % 2 ^ i) := by
  unfold Go.bits
  congr 1
  have hm : BitVec.ofInt k.bits (2 ^ i - 1) = BitVec.ofNat k.bits (2 ^ i - 1) := by
    have : ((2 : Int) ^ i - 1) = ((2 ^ i - 1 : Nat) : Int) := by
      have := Nat.two_pow_pos i
      rw [Int.natCast_sub this]; simp
    rw [this, BitVec.ofInt_natCast]
  have hlt : 2 ^ i - 1 < 2 ^ k.bits := by
    have := Nat.two_pow_pos i
    have := Nat.pow_le_pow_right (n := 2) (by decide) hi
    omega
  simp only [hm, BitVec.toNat_and, BitVec.toNat_ofNat, BitVec.toNat_ofInt]
  rw [Nat.mod_eq_of_lt hlt, Nat.and_two_pow_sub_one_eq_mod]
  have h1 : (0 : Int) < ((2 ^ k.bits : Nat) : Int) := by exact_mod_cast Nat.two_pow_pos _
  have hd : ((2 : Int) ^ i) ∣ ((2 ^ k.bits : Nat) : Int) := by
    rw [show ((2 ^ k.bits : Nat) : Int) = (2 : Int) ^ k.bits by simp]
    exact ⟨2 ^ (k.bits - i), by rw [← Int.pow_add, Nat.add_sub_cancel' hi]⟩
  have h2 : 0 ≤ x % ((2 ^ k.bits : Nat) : Int) := Int.emod_nonneg _ (by omega)
  rw [Int.natCast_emod, Int.toNat_of_nonneg h2]
  rw [show (((2 ^ i : Nat)) : Int) = (2 : Int) ^ i by simp]
  rw [Int.emod_emod_of_dvd _ hd]
theorem and255 (x : Int) : 0 ≤ Go.bits .and .u64 x 255 ∧ Go.bits .and .u64 x 255 ≤ 255 := by
  have := bits_and_mask .u64 x 8 (by decide)
  rw [show (2 : Int) ^ 8 - 1 = 255 by rfl, wrap_u64] at this
  rw [this]
  omega
/-! ### strings and their bytes -/
theorem bt_of {s : ByteArray} {i : Nat} (h : i < s.size) : bt s i = (s[i]'h).toNat := by
  have := bt_at s i (by simpa using h)
  simpa using this.symm
theorem ba_ext {s t : ByteArray} (h : s.size = t.size) (hb : ∀ i : Nat, i < s.size → bt s i = bt t i) : s = t := by
  apply ByteArray.ext
  apply Array.ext
  · exact h
  · intro i h1 h2
    have := hb i h1
    rw [bt_of (s := s) h1, bt_of (s := t) h2] at this
    exact UInt8.toNat_inj.1 (by exact_mod_cast this)
theorem emod_split (n a b : Int) (ha : 0 < a) (hb : 0 < b) : n % (a * b) = n % a + a * (n / a % b) := by
  have h1 := Int.mul_ediv_add_emod n a
  have h2 := Int.mul_ediv_add_emod (n / a) b
  have h3 := Int.emod_nonneg n (show a ≠ 0 by omega)
  have h4 := Int.emod_lt_of_pos n ha
  have h5 := Int.emod_nonneg (n / a) (show b ≠ 0 by omega)
  have h6 := Int.emod_lt_of_pos (n / a) hb
  have h8 : a * (n / a % b) ≤ a * b - a := by
    have := Int.mul_le_mul_of_nonneg_left (show n / a % b ≤ b - 1 by omega) (show 0 ≤ a by omega)
    rw [Int.mul_sub, Int.mul_one] at this
    exact this
  have h9 : 0 ≤ a * (n / a % b) := Int.mul_nonneg (by omega) h5
  have e : n = (n % a + a * (n / a % b)) + (a * b) * (n / a / b) := by
    have h7 : a * (b * (n / a / b) + n / a % b) = a * (n / a) := by rw [h2]
    rw [Int.mul_add, ← Int.mul_assoc] at h7
    omega
  have e2 : n % (a * b) = ((n % a + a * (n / a % b)) + (a * b) * (n / a / b)) % (a * b) := by rw [← e]
  rw [e2, Int.add_mul_emod_self_left]
  exact Int.emod_eq_of_lt (by omega) (by omega)
theorem size_ofNums (xs : List Int) : (strOfNums xs).size = xs.length := by simp [strOfNums, ByteArray.size]
theorem bt_ofNums {xs : List Int} (h : ∀ x ∈ xs, 0 ≤ x ∧ x ≤ 255) (i : Nat) (hi : i < xs.length) : bt (strOfNums xs) i = xs[i] := by
  have hs : i < (strOfNums xs).size := by rw [size_ofNums]; exact hi
  rw [bt_of hs]
  have hx := h xs[i] (List.getElem_mem hi)
  have e : (strOfNums xs)[i] = UInt8.ofNat (xs[i]).toNat := by simp [strOfNums, ByteArray.getElem_eq_getElem_data]
  rw [e]
  simp
  omega
/-- A number's lowest bytes, the least significant one first. -/
def bytesN (n : Int) (d : Nat) : List Int := (List.range d).map fun j => n / 256 ^ j % 256
theorem bytesN_length (n : Int) (d : Nat) : (bytesN n d).length = d := by simp [bytesN]
theorem bytesN_bd (n : Int) (d : Nat) : ∀ x ∈ bytesN n d, 0 ≤ x ∧ x ≤ 255 := by
  intro x hx
  obtain ⟨j, _, rfl⟩ := List.mem_map.1 hx
  omega
theorem bytesN_succ (n : Int) (d : Nat) : bytesN n (d + 1) = bytesN n d ++ [n / 256 ^ d % 256] := by simp [bytesN, List.range_succ]
theorem bytesN_at (n : Int) (d j : Nat) (hj : j < (bytesN n d).length) : (bytesN n d)[j] = n / 256 ^ j % 256 := by simp [bytesN]
theorem le_bytes (n : Int) (D : Nat) : ∀ j : Nat, j ≤ D → le (strOfNums (bytesN n D)) 0 j = n % 256 ^ j
  | 0, _ => by simp [le, Int.emod_one]
  | j + 1, h => by
    have hj : j < (bytesN n D).length := by rw [bytesN_length]; omega
    rw [le, le_bytes n D j (by omega), Int.zero_add, bt_ofNums (bytesN_bd n D) j hj, bytesN_at, Int.pow_succ, emod_split n (256 ^ j) 256 (Int.pow_pos (by decide)) (by decide), Int.mul_comm (n / 256 ^ j % 256)]
theorem add_mul_div (x q : Int) (j d : Nat) (h : j < d) : (x + q * 256 ^ d) / 256 ^ j % 256 = x / 256 ^ j % 256 := by
  obtain ⟨e, rfl⟩ : ∃ e, d = j + (e + 1) := ⟨d - j - 1, by omega⟩
  have hp : (256 : Int) ^ j ≠ 0 := by have := Int.pow_pos (n := 256) (m := j) (by decide); omega
  rw [Int.pow_add, Int.mul_comm (256 ^ j), ← Int.mul_assoc, Int.add_mul_ediv_right _ _ hp, Int.pow_succ, ← Int.mul_assoc, Int.add_mul_emod_self_right]
theorem bytesN_off (x q : Int) (d : Nat) : bytesN (x + q * 256 ^ d) d = bytesN x d := by
  apply List.map_congr_left
  intro j hj
  exact add_mul_div x q j d (List.mem_range.1 hj)
theorem digit (s : ByteArray) (a : Int) : ∀ (n j : Nat), j < n → le s a n / 256 ^ j % 256 = bt s (a + j)
  | 0, j, h => by omega
  | n + 1, j, h => by
    obtain ⟨b0, b1⟩ := bt_range s (a + j)
    rw [le]
    by_cases hj : j < n
    · rw [add_mul_div _ _ _ _ hj]
      exact digit s a n j hj
    · obtain rfl : j = n := by omega
      obtain ⟨l0, l1⟩ := le_bd s a j
      have hp : (0 : Int) < 256 ^ j := Int.pow_pos (by decide)
      rw [Int.add_mul_ediv_right _ _ (by omega), Int.ediv_eq_zero_of_lt l0 l1]
      omega
theorem bytes_le (s : ByteArray) (a n : Nat) (h : a + n ≤ s.size) : strOfNums (bytesN (le s a n) n) = s.extract a (a + n) := by
  apply ba_ext
  · rw [size_ofNums, bytesN_length, size_extract _ _ _ h]; omega
  · intro i hi
    rw [size_ofNums, bytesN_length] at hi
    have hj : i < (bytesN (le s a n) n).length := by rw [bytesN_length]; exact hi
    rw [bt_ofNums (bytesN_bd _ _) i hj, bytesN_at, digit s a n i hi, bt_extract s a (a + n) i (by omega) (by omega) h]
theorem toList_loop_length (s : ByteArray) : s.toList.length = s.size := by
  rw [Go.ByteArray.toList_eq, Array.length_toList]
  rfl
theorem toList_nil (s : ByteArray) : s.toList = ([] : List UInt8) ↔ s.size = 0 := by
  rw [← List.length_eq_zero_iff, toList_loop_length]
theorem bt_append_left (a b : ByteArray) (i : Nat) (h : i < a.size) : bt (a ++ b) i = bt a i := by
  have h2 : i < (a ++ b).size := by rw [ByteArray.size_append]; omega
  rw [bt_of h, bt_of h2]
  simp only [ByteArray.getElem_append_left h]
end Go.Proofs.Ytejjlklecmdpiaa.Kit
