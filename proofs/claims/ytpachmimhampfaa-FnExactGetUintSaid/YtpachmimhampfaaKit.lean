/- Plain lemmas on whole numbers, bytes and strings that this seat's pure statements share. No condition. -/
import Derived.Test.YtpachmimhampfaaWMore
namespace Go.Proofs.Ytpachmimhampfaa.Kit
open Go.RowKit Go.Proofs.YtpachmimhampfaaW.PrintWords

theorem w64 {x : Int} (h0 : -9223372036854775808 ≤ x) (h1 : x ≤ 9223372036854775807) : wrap64 x = x := by unfold wrap64; omega
theorem bd64 {x : Int} (h : (Lit.int .i64 x).wf = true) : -9223372036854775808 ≤ x ∧ x ≤ 9223372036854775807 := by
  simp [Lit.wf, IntKind.min, IntKind.max, IntKind.signed, IntKind.bits] at h
  omega
theorem wrap_i64' (x : Int) : IntKind.i64.wrap x = wrap64 x := by unfold wrap64; exact IntKind.wrap_i64 x
theorem wrap_u64 (n : Int) : IntKind.u64.wrap n = n % 18446744073709551616 := by simp [IntKind.wrap, IntKind.bits, IntKind.signed]

/-- The little-endian number of n bytes from 'at' on. -/
def le (s : ByteArray) (a : Int) : Nat → Int
  | 0 => 0
  | n + 1 => le s a n + bt s (a + n) * 256 ^ n

theorem le_bd (s : ByteArray) (a : Int) : ∀ n, 0 ≤ le s a n ∧ le s a n < 256 ^ n
  | 0 => by simp [le]
  | n + 1 => by
    obtain ⟨h0, h1⟩ := le_bd s a n
    obtain ⟨b0, b1⟩ := bt_range s (a + n)
    have hp : (0 : Int) < 256 ^ n := Int.pow_pos (by decide)
    have h2 : 0 ≤ bt s (a + n) * 256 ^ n := Int.mul_nonneg b0 (by omega)
    have h3 : bt s (a + n) * 256 ^ n ≤ 255 * 256 ^ n := Int.mul_le_mul_of_nonneg_right b1 (by omega)
    simp only [le, Int.pow_succ]
    omega

theorem size_extract (s : ByteArray) (a b : Nat) (hb : b ≤ s.size) : (s.extract a b).size = b - a := by
  simp [ByteArray.size_extract]; omega
theorem bt_extract (s : ByteArray) (a b : Nat) (i : Int) (h0 : 0 ≤ i) (hi : i < (b : Int) - a) (hb : b ≤ s.size) : bt (s.extract a b) i = bt s (a + i) := by
  unfold bt
  have h1 : i.toNat < (s.extract a b).size := by rw [size_extract s a b hb]; omega
  have h2 : ((a : Int) + i).toNat < s.size := by omega
  rw [dif_pos h1, dif_pos h2]
  simp only [ByteArray.getElem_extract]
  simp only [show ((a : Int) + i).toNat = a + i.toNat by omega]
theorem le_extract (s : ByteArray) (a b : Nat) (hb : b ≤ s.size) : ∀ n : Nat, a + n ≤ b → le (s.extract a b) 0 n = le s a n
  | 0, _ => rfl
  | n + 1, h => by
    simp only [le]
    rw [le_extract s a b hb n (by omega), Int.zero_add, bt_extract s a b n (by omega) (by omega) hb]

theorem or_disj (n : Nat) (x y : Int) (i : Nat) (hx : x % 2 ^ i = 0) (hy0 : 0 ≤ y) (hy : y < 2 ^ i) :
    BitVec.ofInt n x ||| BitVec.ofInt n y = BitVec.ofInt n (x + y) := by
  obtain ⟨m, rfl⟩ := Int.dvd_of_emod_eq_zero hx
  obtain ⟨b, rfl⟩ := Int.eq_ofNat_of_zero_le hy0
  have hb : b < 2 ^ i := by exact_mod_cast hy
  have e : BitVec.ofInt n (2 ^ i * m) = BitVec.ofInt n m <<< i := by
    rw [BitVec.shiftLeft_eq_mul_twoPow, BitVec.ofInt_mul, BitVec.mul_comm]
    congr 1
    rw [show ((2 : Int) ^ i) = ((2 ^ i : Nat) : Int) by simp, BitVec.ofInt_natCast]
    apply BitVec.eq_of_toNat_eq
    simp [BitVec.toNat_twoPow]
  rw [BitVec.ofInt_add, e]
  symm
  apply BitVec.add_eq_or_of_and_eq_zero
  ext j hj
  simp
  intro h1 _
  simp only [← BitVec.getLsbD_eq_getElem, BitVec.getLsbD_ofNat, hj, decide_true, Bool.true_and]
  exact Nat.testBit_lt_two_pow (Nat.lt_of_lt_of_le hb (Nat.pow_le_pow_right (by decide) h1))
/-- 'x | y' where y lies below x's lowest bit: a sum. -/
theorem bits_or_add (k : IntKind) (x y : Int) (i : Nat) (hx : x % 2 ^ i = 0) (hy0 : 0 ≤ y) (hy : y < 2 ^ i) : Go.bits .or k x y = k.wrap (x + y) := by
  unfold Go.bits
  simp only [or_disj k.bits x y i hx hy0 hy, BitVec.toNat_ofInt]
  cases k <;> simp [IntKind.wrap, IntKind.bits, IntKind.signed] <;> omega
theorem bits_or_comm (k : IntKind) (x y : Int) : Go.bits .or k x y = Go.bits .or k y x := by
  unfold Go.bits
  simp only [BitVec.or_comm]
theorem le_mul_self {a b : Int} (h0 : 0 ≤ a) (h1 : 1 ≤ b) : a ≤ a * b := by
  have := Int.mul_le_mul_of_nonneg_left h1 h0
  omega
theorem pow256 (n : Nat) : (256 : Int) ^ n = 2 ^ (8 * n) := by rw [Int.pow_mul]; rfl
theorem pow_mono {b : Int} (hb : 1 ≤ b) {m n : Nat} (h : m ≤ n) : b ^ m ≤ b ^ n := by
  obtain ⟨d, rfl⟩ := Nat.le.dest h
  rw [Int.pow_add]
  have hd : 0 < b ^ d := Int.pow_pos (by omega)
  exact le_mul_self (Int.pow_nonneg (by omega)) (by omega)
theorem or_shl_byte (x b : Int) (i : Nat) (hi : i < 8) (h0 : 0 ≤ x) (h1 : x < 256 ^ i) (b0 : 0 ≤ b) (b1 : b ≤ 255) :
    Go.bits .or .u64 x (shl .u64 b (8 * (i : Int))) = x + b * 256 ^ i := by
  have hp : (0 : Int) < 256 ^ i := Int.pow_pos (by decide)
  have hm : (256 : Int) ^ i ≤ 256 ^ 7 := pow_mono (by decide) (by omega)
  have hb : b * 256 ^ i ≤ 255 * 256 ^ i := Int.mul_le_mul_of_nonneg_right b1 (by omega)
  have hb0 : 0 ≤ b * 256 ^ i := Int.mul_nonneg b0 (by omega)
  have e : shl .u64 b (8 * (i : Int)) = b * 256 ^ i := by
    unfold shl
    rw [show min (8 * (i : Int)).toNat IntKind.u64.bits = 8 * i by simp [IntKind.bits]; omega, ← pow256, wrap_u64]
    omega
  rw [e, bits_or_comm, bits_or_add .u64 (b * 256 ^ i) x (8 * i) (by rw [← pow256]; exact Int.mul_emod_left _ _) h0 (by rw [← pow256]; exact h1), wrap_u64]
  omega
end Go.Proofs.Ytpachmimhampfaa.Kit
