/- What 'FnDisk' comes to, in plain words over numbers, texts and lists: each function that it reaches answers what is told; put together, the law answers true. No condition but the sizes that come in. -/
import Derived.Test.YtkfcmjdooldonaaEqFnDisk
namespace Go.Ve.X
open Go.Ve
set_option linter.all false
set_option maxRecDepth 100000

/-! within -/
theorem spec_l00In_some (n lo hi : Int) : spec_l00In n lo hi = some (inr n lo hi) := by rw [spec_l00In_eq, inr_sif]
theorem impl_within_some (n lo hi : Int) : impl_within n lo hi = some (inr n lo hi) := by rw [impl_within_eq, inr_sif]
/-! diskOk -/
def putOk (n : Int) (p : Int × ByteArray) : Bool := inr p.1 0 (n - 1) && ((p.2.size : Int) == 64)
def diskOk (B : List ByteArray) (P : List (Int × ByteArray)) (f : Int) : Bool :=
  inr B.length 16 256 && !decide ((P.length : Int) > 600) && inr f (-1) 100000 && B.all (fun b => (b.size : Int) == 64) && P.all (putOk B.length)
theorem spec_l09Ok_some (B : List ByteArray) (P : List (Int × ByteArray)) (f : Int) (o : Bool) : spec_l09Ok B P f o = some (diskOk B P f) := by
  unfold diskOk
  rw [spec_l09Ok_eq, spec_l00In_some, sbind_some]
  cases h1 : inr (B.length : Int) 16 256 with
  | false => rfl
  | true =>
    have hB := inr_iff.1 h1
    rw [Bool.not_true, sif_false]
    by_cases h2 : (P.length : Int) > 600
    · rw [sif_t h2, decide_eq_true h2]; rfl
    · rw [sif_f h2, spec_l00In_some, sbind_some, decide_eq_false h2]
      cases h3 : inr f (-1) 100000 with
      | false => rfl
      | true =>
        rw [Bool.not_true, sif_false]
        have k1 := all_loop B (fun b => (b.size : Int) == 64) (fun i => spec_l09Ok_l5 (B.length : Int) (i : Int) B P f o) false (fun i x hx hi => by
          rw [spec_l09Ok_l5_eq, sif_t (by omega), idx_some hx, sbind_some, wi64_add1 (by omega)]
          show sif (!((x.size : Int) == 64)) _ _ = _
          rw [sif_not])
        have k2 := all_loop P (putOk B.length) (fun i => spec_l09Ok_l10 (B.length : Int) (i : Int) B P f o) false (fun i x hx hi => by
          rw [spec_l09Ok_l10_eq, sif_t (by omega), idx_some hx, sbind_some, wi64_id (n := (B.length : Int) - 1) (by omega) (by omega), spec_l00In_some, sbind_some, sif_not, sbind_some, wi64_add1 (by omega)]
          unfold putOk
          show sif _ (sif (!((x.2.size : Int) == 64)) _ _) _ = _
          rw [sif_not]
          cases inr x.1 0 ((B.length : Int) - 1) <;> rfl)
        have e : spec_l09Ok_l5 (B.length : Int) (B.length : Int) B P f o = spec_l09Ok_l10 (B.length : Int) 0 B P f o := by rw [spec_l09Ok_l5_eq, sif_f (by omega)]
        have e2 : spec_l09Ok_l10 (B.length : Int) (P.length : Int) B P f o = some true := by rw [spec_l09Ok_l10_eq, sif_f (by omega)]
        refine k1.trans ?_
        rw [e]
        refine (congrArg (fun z => sif _ z _) k2).trans ?_
        rw [e2]
        cases B.all (fun b => (b.size : Int) == 64) <;> cases P.all (putOk B.length) <;> rfl
/-! implDisk -/
theorem impl_isBlock_some (b : ByteArray) : impl_isBlock b = some ((b.size : Int) == 64) := by rw [impl_isBlock_eq]
theorem impl_ValidDisk_1_some (b : ByteArray) : impl_ValidDisk_1 b = some (!((b.size : Int) == 64)) := by rw [impl_ValidDisk_1_eq, impl_isBlock_some, sbind_some]
theorem impl_isIndex_some (i n : Int) (h0 : 0 ≤ n) (h1 : n ≤ 1000000000000) : impl_isIndex i n = some (inr i 0 (n - 1)) := by
  rw [impl_isIndex_eq, wi64_id (by omega) (by omega), impl_within_some, sbind_some]
theorem impl_ValidDisk_2_some (p : Int × ByteArray) (B : List ByteArray) (P : List (Int × ByteArray)) (f : Int) (o : Bool) (h : B.length ≤ 1000000000000) : impl_ValidDisk_2 p.1 p.2 B P f o = some (!putOk B.length p) := by
  rw [impl_ValidDisk_2_eq, impl_isIndex_some _ _ (by omega) (by omega), sbind_some, impl_isBlock_some, sbind_some]
  unfold putOk
  cases inr p.1 0 ((B.length : Int) - 1) <;> rfl
theorem impl_ValidDisk_some (B : List ByteArray) (P : List (Int × ByteArray)) (f : Int) (o : Bool) : impl_ValidDisk B P f o = some (diskOk B P f) := by
  unfold diskOk
  rw [impl_ValidDisk_eq, impl_within_some, sbind_some]
  cases h1 : inr (B.length : Int) 16 256 with
  | false => rfl
  | true =>
    have hB := inr_iff.1 h1
    rw [Bool.not_true, sif_false]
    by_cases h2 : (P.length : Int) > 600
    · rw [sif_t h2, decide_eq_true h2]; rfl
    · rw [sif_f h2, impl_within_some, sbind_some, decide_eq_false h2]
      cases h3 : inr f (-1) 100000 with
      | false => rfl
      | true =>
        rw [Bool.not_true, sif_false]
        have k1 : slices_ContainsFunc_sstring_string_d_ValidDisk_1 B = some (B.any fun b => !((b.size : Int) == 64)) := by
          rw [slices_ContainsFunc_sstring_string_d_ValidDisk_1_eq, slices_IndexFunc_sstring_string_d_ValidDisk_1_eq]
          refine find_any (find_loop B _ (fun i => slices_IndexFunc_sstring_string_d_ValidDisk_1_l2 B (B.length : Int) i) (by rw [slices_IndexFunc_sstring_string_d_ValidDisk_1_l2_eq, sif_f (by omega)]) (fun i x hx hi => ?_))
          rw [slices_IndexFunc_sstring_string_d_ValidDisk_1_l2_eq, sif_t (by omega), idx_some hx, sbind_some, impl_ValidDisk_1_some, sbind_some, wi64_add1 (by omega)]
        have k2 : slices_ContainsFunc_simpl_Put_impl_Put_d_ValidDisk_2 P B P f o = some (P.any fun p => !putOk B.length p) := by
          rw [slices_ContainsFunc_simpl_Put_impl_Put_d_ValidDisk_2_eq, slices_IndexFunc_simpl_Put_impl_Put_d_ValidDisk_2_eq]
          refine find_any (find_loop P _ (fun i => slices_IndexFunc_simpl_Put_impl_Put_d_ValidDisk_2_l2 P (P.length : Int) i B P f o) (by rw [slices_IndexFunc_simpl_Put_impl_Put_d_ValidDisk_2_l2_eq, sif_f (by omega)]) (fun i x hx hi => ?_))
          rw [slices_IndexFunc_simpl_Put_impl_Put_d_ValidDisk_2_l2_eq, sif_t (by omega), idx_some hx, sbind_some, impl_ValidDisk_2_some _ _ _ _ _ (by omega), sbind_some, wi64_add1 (by omega)]
        rw [k1, sbind_some, any_not_all B (fun b => (b.size : Int) == 64) _ (fun _ _ => rfl), k2, any_not_all P (putOk B.length) _ (fun _ _ => rfl), sbind_some]
        cases B.all (fun b => (b.size : Int) == 64) <;> cases P.all (putOk B.length) <;> rfl
/-! diskClone -/
theorem clone_s (s : List ByteArray) (h : s.length ≤ 1048576) : slices_Clone_sstring_string s = some s := by
  rw [slices_Clone_sstring_string_eq, sif_pos (room_ok (by omega))]
  cases s with
  | nil => simp
  | cons a l => rfl
theorem clone_p (s : List (Int × ByteArray)) (h : s.length ≤ 1048576) : slices_Clone_simpl_Put_impl_Put s = some s := by
  rw [slices_Clone_simpl_Put_impl_Put_eq, sif_pos (room_ok (by omega))]
  cases s with
  | nil => simp
  | cons a l => rfl
theorem impl_Disk_clone_some (B : List ByteArray) (P : List (Int × ByteArray)) (f : Int) (o : Bool) (h : B.length ≤ 1048576) (h' : P.length ≤ 1048576) : impl_Disk_clone B P f o = some (f, o, B, P) := by
  rw [impl_Disk_clone_eq, clone_s B h, sbind_some, clone_p P h', sbind_some]
/-! diskLaw -/
theorem sum_le {α : Type} (b : α → Nat) (c : Nat) : ∀ (l : List α), (∀ x ∈ l, b x ≤ c) → (l.map b).sum ≤ l.length * c
  | [], _ => by simp
  | x :: l, h => by
    have := sum_le b c l (fun y hy => h y (by simp [hy]))
    have := h x (by simp)
    rw [List.map_cons, List.sum_cons, List.length_cons, Nat.succ_mul]; omega
theorem disk_ok {B : List ByteArray} {P : List (Int × ByteArray)} {f : Int} (h : diskOk B P f = true) : 16 ≤ B.length ∧ B.length ≤ 256 ∧ P.length ≤ 600 ∧ -1 ≤ f ∧ f ≤ 100000 ∧ (∀ b ∈ B, b.size = 64) ∧ ∀ p ∈ P, 0 ≤ p.1 ∧ p.1 < B.length ∧ p.2.size = 64 := by
  unfold diskOk at h
  simp only [Bool.and_eq_true, inr_iff, List.all_eq_true, Bool.not_eq_true', decide_eq_false_iff_not, beq_iff_eq, putOk] at h
  obtain ⟨⟨⟨⟨h1, h2⟩, h3⟩, h4⟩, h5⟩ := h
  exact ⟨by omega, by omega, by omega, by omega, by omega, fun b hb => by have := h4 b hb; omega, fun p hp => by have := h5 p hp; exact ⟨by omega, by omega, by omega⟩⟩
def powM (f : Int) (o : Bool) : Bool × Int × Bool := if (o || f == 0) = true then (false, f, true) else (true, (if f > 0 then f - 1 else f), o)
theorem impl_power (f : Int) (o : Bool) (B : List ByteArray) (P : List (Int × ByteArray)) (h1 : -1 ≤ f) (h2 : f ≤ 100000) : impl_Disk_power_wvv f o B P = some (if (powM f o).1 = true then 0 else 13, (powM f o).2.1, (powM f o).2.2, B, P) := by
  rw [impl_Disk_power_wvv_eq, wi64_id (by omega) (by omega)]
  unfold powM
  cases o with
  | true => rfl
  | false =>
    rw [sif_false]
    cases hf : f == 0 with
    | true => rfl
    | false =>
      rw [sif_false]
      by_cases c : f > 0
      · rw [sif_t c, Bool.false_or]; simp [c]
      · rw [sif_f c, Bool.false_or]; simp [c]
/-! readL -/
theorem sbind_id {α : Type} (o : Option α) : (sbind o fun x => some x) = o := by cases o <;> rfl
theorem impl_read_some (B : List ByteArray) (P : List (Int × ByteArray)) (f : Int) (o : Bool) (k : Int) (hP : P.length ≤ 1048576) : impl_Disk_read B P f o k = dkFind B P k := by
  rw [impl_Disk_read_eq]
  unfold dkRead
  rw [if_pos (by omega)]
theorem diskOk_len {B : List ByteArray} {P : List (Int × ByteArray)} {f : Int} (h : diskOk B P f = true) : (16 ≤ (B.length : Int) ∧ (B.length : Int) ≤ 256) ∧ P.length ≤ 600 := by
  unfold diskOk at h
  simp only [Bool.and_eq_true, inr_iff, Bool.not_eq_true', decide_eq_false_iff_not] at h
  omega
theorem dkFind_ok {B : List ByteArray} {P : List (Int × ByteArray)} {f k : Int} (h : diskOk B P f = true) (hk : inr k 0 ((B.length : Int) - 1) = true) : ∃ b, dkFind B P k = some b ∧ b.size = 64 := by
  have hB : B.all (fun b => (b.size : Int) == 64) = true ∧ P.all (putOk B.length) = true := by
    unfold diskOk at h
    simp only [Bool.and_eq_true] at h
    exact ⟨h.1.2, h.2⟩
  rw [inr_iff] at hk
  unfold dkFind
  cases hf : P.reverse.find? (fun p => p.1 == k) with
  | some p =>
    have hm := List.mem_of_find?_eq_some hf
    have := List.all_eq_true.1 hB.2 p (by simpa using hm)
    unfold putOk at this
    simp only [Bool.and_eq_true, beq_iff_eq] at this
    exact ⟨p.2, rfl, by omega⟩
  | none =>
    have hlt : k.toNat < B.length := by omega
    dsimp only
    rw [idx_int hk.1, List.getElem?_eq_getElem hlt]
    have := List.all_eq_true.1 hB.1 _ (List.getElem_mem hlt)
    simp only [beq_iff_eq] at this
    exact ⟨_, rfl, by omega⟩
def readM (B : List ByteArray) (P : List (Int × ByteArray)) (f k : Int) : ByteArray × Int :=
  if diskOk B P f = true then (if inr k 0 ((B.length : Int) - 1) = true then ((dkFind B P k).getD (bs []), 0) else (bs [], 2)) else (bs [], 1)
theorem impl_ReadBlock_some (B : List ByteArray) (P : List (Int × ByteArray)) (f : Int) (o : Bool) (k : Int) : impl_ReadBlock B P f o k = some (readM B P f k) := by
  unfold readM
  rw [impl_ReadBlock_eq, impl_ValidDisk_some, sbind_some]
  cases h : diskOk B P f with
  | false => rfl
  | true =>
    have hl := diskOk_len h
    rw [Bool.not_true, sif_false, impl_isIndex_some _ _ (by omega) (by omega), sbind_some, if_pos rfl]
    cases hk : inr k 0 ((B.length : Int) - 1) with
    | false => rfl
    | true =>
      obtain ⟨b, hb, _⟩ := dkFind_ok h hk
      rw [Bool.not_true, sif_false, impl_read_some B P f o k (by omega), hb, sbind_some, if_pos rfl]; rfl
/-! bytesL -/
theorem bidx_ofB (s : ByteArray) (i : Int) : bidx s i = idx (Ve.ofB s) i := by
  unfold bidx idx
  split
  · unfold Ve.ofB
    rw [List.getElem?_map]
    congr 1
    rw [Array.getElem?_toList, getElem?_def, getElem?_def]
    rfl
  · rfl
def inB (l : List Int) : Prop := ∀ x ∈ l, 0 ≤ x ∧ x ≤ 255
theorem ofB_inB (s : ByteArray) : inB (Ve.ofB s) := by
  intro x hx
  unfold Ve.ofB at hx
  obtain ⟨b, _, rfl⟩ := List.mem_map.1 hx
  have := b.toNat_lt
  omega
theorem toB_ofB (s : ByteArray) : Ve.toB (Ve.ofB s) = s := by
  unfold Ve.toB Ve.ofB
  rw [List.map_map]
  have : ((fun n : Int => UInt8.ofNat n.toNat) ∘ fun b : UInt8 => (b.toNat : Int)) = id := by funext b; simp
  rw [this, List.map_id]
theorem ofB_toB {l : List Int} (h : inB l) : Ve.ofB (Ve.toB l) = l := by
  unfold Ve.toB Ve.ofB
  simp only [List.map_map]
  conv => rhs; rw [← List.map_id l]
  refine List.map_congr_left (fun x hx => ?_)
  have := h x hx
  simp only [Function.comp, id]
  rw [UInt8.toNat_ofNat']
  omega
theorem bits_and_u64 (a : Int) : 0 ≤ bits .and .u64 a 255 ∧ bits .and .u64 a 255 ≤ 255 := by
  have h : ∀ x : BitVec 64, (x &&& 255#64).toNat ≤ 255 := fun x => by rw [BitVec.toNat_and]; exact Nat.and_le_right
  have := h (BitVec.ofInt 64 a)
  have e : bits .and .u64 a 255 = wu64 (((BitVec.ofInt 64 a) &&& 255#64).toNat : Int) := rfl
  rw [e, wu64_id (by omega) (by omega)]
  omega
/-! leL -/
def leN : List Int → Int
  | [] => 0
  | b :: r => b + 256 * leN r
theorem leN_ge : ∀ {l : List Int}, inB l → 0 ≤ leN l
  | [], _ => by simp [leN]
  | b :: r, h => by
    have := leN_ge (l := r) (fun x hx => h x (by simp [hx])); have := h b (by simp); simp only [leN]; omega
theorem leN_lt : ∀ {l : List Int}, inB l → leN l < 256 ^ l.length
  | [], _ => by simp [leN]
  | b :: r, h => by
    have := leN_lt (l := r) (fun x hx => h x (by simp [hx])); have := h b (by simp)
    simp only [leN, List.length_cons, Int.pow_succ]; omega
theorem leN_append : ∀ (a b : List Int), leN (a ++ b) = leN a + 256 ^ a.length * leN b
  | [], b => by simp [leN]
  | x :: a, b => by
    simp only [List.cons_append, leN, leN_append a b, List.length_cons, Int.pow_succ]
    rw [Int.mul_add, Int.mul_comm (256 ^ a.length) 256, Int.mul_assoc]; omega
theorem inB_take {l : List Int} (h : inB l) (n : Nat) : inB (l.take n) := fun x hx => h x (List.mem_of_mem_take hx)
theorem inB_drop {l : List Int} (h : inB l) (n : Nat) : inB (l.drop n) := fun x hx => h x (List.mem_of_mem_drop hx)
theorem leN_drop {l : List Int} (h : inB l) : ∀ n, leN (l.drop n) ≤ leN l := by
  induction l with
  | nil => intro n; simp
  | cons b r ih =>
    intro n
    cases n with
    | zero => simp
    | succ n =>
      have h1 := ih (fun x hx => h x (by simp [hx])) n
      have h2 := leN_ge (l := r) (fun x hx => h x (by simp [hx]))
      have h3 := h b (by simp)
      simp only [List.drop_succ_cons, leN]; omega
def leB (n : Int) (k : Nat) : List Int := (List.range k).map (fun i => wu8 (Int.fdiv n (2 ^ (8 * i))))
theorem leB_len (n : Int) (k : Nat) : (leB n k).length = k := by simp [leB]
theorem leB_in (n : Int) (k : Nat) : inB (leB n k) := by
  intro x hx
  obtain ⟨i, _, rfl⟩ := List.mem_map.1 hx
  rw [wu8_def]; omega
theorem fdiv_shift (n : Int) (i : Nat) : Int.fdiv n (2 ^ (8 * (i + 1))) = Int.fdiv (Int.fdiv n 256) (2 ^ (8 * i)) := by
  rw [Int.fdiv_eq_ediv_of_nonneg _ (Int.pow_nonneg (by decide)), Int.fdiv_eq_ediv_of_nonneg _ (Int.pow_nonneg (by decide)), Int.fdiv_eq_ediv_of_nonneg _ (by decide)]
  rw [Int.ediv_ediv_of_nonneg (by decide)]
  congr 1
  rw [Nat.mul_add, Int.pow_add, Int.mul_comm]; rfl
theorem leB_succ (n : Int) (k : Nat) : leB n (k + 1) = wu8 n :: leB (Int.fdiv n 256) k := by
  unfold leB
  rw [List.range_succ_eq_map, List.map_cons, List.map_map]
  congr 1
  · simp [Int.fdiv_one]
  · refine List.map_congr_left (fun i _ => ?_)
    simp only [Function.comp]
    rw [Nat.succ_eq_add_one, fdiv_shift]
theorem leN_leB : ∀ (k : Nat) (n : Int), 0 ≤ n → n < 256 ^ k → leN (leB n k) = n
  | 0, n, h0, h1 => by simp at h1; simp [leB, leN]; omega
  | k + 1, n, h0, h1 => by
    rw [Int.pow_succ] at h1
    rw [leB_succ, leN, Int.fdiv_eq_ediv_of_nonneg _ (by decide), leN_leB k (n / 256) (by omega) (by omega), wu8_def]
    omega
theorem or_add {x b k : Nat} (h : x < 2 ^ k) : x ||| (b * 2 ^ k) = x + b * 2 ^ k := by
  have := Nat.shiftLeft_add_eq_or_of_lt h b
  rw [Nat.shiftLeft_eq] at this
  rw [Nat.or_comm, ← this, Nat.add_comm]
theorem bits_or_nat {x y : Nat} (hx : x < 18446744073709551616) (hy : y < 18446744073709551616) : bits .or .u64 (x : Int) (y : Int) = ((x ||| y : Nat) : Int) := by
  have e : bits .or .u64 (x : Int) (y : Int) = wu64 (((BitVec.ofInt 64 (x : Int)) ||| (BitVec.ofInt 64 (y : Int))).toNat : Int) := rfl
  have hxy : x ||| y < 2 ^ 64 := Nat.or_lt_two_pow hx hy
  rw [e, BitVec.toNat_or, BitVec.ofInt_natCast, BitVec.ofInt_natCast, BitVec.toNat_ofNat, BitVec.toNat_ofNat, Nat.mod_eq_of_lt hx, Nat.mod_eq_of_lt hy, wu64_id (by omega) (by omega)]
theorem or_step {n b : Int} {i : Nat} (hi : i ≤ 7) (h0 : 0 ≤ n) (h1 : n < 256 ^ i) (b0 : 0 ≤ b) (b1 : b ≤ 255) : bits .or .u64 n (wu64 ((wu64 b) * 2 ^ (min (wi64 (8 * (i : Int))).toNat 64))) = n + 256 ^ i * b := by
  rw [wi64_id (by omega) (by omega), wu64_id (n := b) (by omega) (by omega)]
  have hm : min (8 * (i : Int)).toNat 64 = 8 * i := by omega
  rw [hm]
  have hp : (256 : Int) ^ i = 2 ^ (8 * i) := by rw [Int.pow_mul]; rfl
  have hpn : ((2 ^ (8 * i) : Nat) : Int) = 2 ^ (8 * i) := by push_cast; rfl
  have hle : (2 : Nat) ^ (8 * i) ≤ 2 ^ 56 := Nat.pow_le_pow_right (by decide) (by omega)
  obtain ⟨bn, rfl⟩ : ∃ bn : Nat, b = bn := ⟨b.toNat, by omega⟩
  obtain ⟨nn, rfl⟩ : ∃ nn : Nat, n = nn := ⟨n.toNat, by omega⟩
  rw [hp, ← hpn] at h1
  have hmul : bn * 2 ^ (8 * i) ≤ 255 * 2 ^ 56 := Nat.mul_le_mul (by omega) hle
  rw [hp, ← hpn, ← Int.natCast_mul, wu64_id (by omega) (by omega), bits_or_nat (by omega) (by omega), or_add (by omega)]
  push_cast
  rw [Int.mul_comm]
theorem wu8_and (m : Int) : wu8 (bits .and .i64 m 255) = wu8 m := by
  have e : bits .and .i64 m 255 = wi64 (((BitVec.ofInt 64 m) &&& 255#64).toNat : Int) := rfl
  have h : ∀ x : BitVec 64, (x &&& 255#64).toNat = x.toNat % 256 := fun x => by
    rw [BitVec.toNat_and]; exact Nat.and_two_pow_sub_one_eq_mod x.toNat 8
  rw [e, h, BitVec.toNat_ofInt, wi64_id (by omega) (by omega), wu8_def, wu8_def]
  omega
theorem toB_append (a b : List Int) : toB a ++ toB b = toB (a ++ b) := by
  unfold toB
  apply ByteArray.ext
  simp
theorem joinsT {a b : List Int} (h : a.length + b.length ≤ 4611686018427387904) : joins (toB a) (toB b) = true := joins_ok (by rw [toB_size, toB_size]; omega)
theorem extract_toB (l : List Int) (i j : Nat) : (toB l).extract i j = toB ((l.take j).drop i) := by
  unfold toB
  apply ByteArray.ext
  simp [ByteArray.data_extract, List.map_take, List.map_drop, List.drop_take]
theorem bidx_toB {l : List Int} (h : inB l) {i : Int} (h0 : 0 ≤ i) : bidx (toB l) i = l[i.toNat]? := by rw [bidx_ofB, ofB_toB h, idx_int h0]
theorem toB_inj {a b : List Int} (ha : inB a) (hb : inB b) (h : toB a = toB b) : a = b := by rw [← ofB_toB ha, h, ofB_toB hb]
theorem seq_toB {a b : List Int} (ha : inB a) (hb : inB b) : seq (toB a) (toB b) = decide (a = b) := by
  rw [seq_eq, Bool.eq_iff_iff]
  simp only [decide_eq_true_eq]
  exact ⟨toB_inj ha hb, fun h => by rw [h]⟩
/-! superL -/
theorem spec_l00In_inr (n lo hi : Int) : spec_l00In n lo hi = some (inr n lo hi) := by rw [spec_l00In_eq, inr_sif]
theorem impl_within_inr (n lo hi : Int) : impl_within n lo hi = some (inr n lo hi) := by rw [impl_within_eq, inr_sif]
def vS (b l q t : Int) : Bool := inr b 16 256 && (inr l 8 64 && (decide (l ≤ b - 4) && (inr q 0 1000000000000 && inr t 0 1000000000000)))
theorem vS_iff {b l q t : Int} : vS b l q t = true ↔ (16 ≤ b ∧ b ≤ 256) ∧ (8 ≤ l ∧ l ≤ 64) ∧ l ≤ b - 4 ∧ (0 ≤ q ∧ q ≤ 1000000000000) ∧ (0 ≤ t ∧ t ≤ 1000000000000) := by
  unfold vS
  simp only [Bool.and_eq_true, inr_iff, decide_eq_true_eq]
def halfI (b l q t : Int) : List Int := [65, 82, 82, 83] ++ leB 1 1 ++ leB b 2 ++ leB l 2 ++ leB q 8 ++ leB t 8
def encI (b l q t : Int) : List Int := (halfI b l q t ++ List.replicate 7 0) ++ (halfI b l q t ++ List.replicate 7 0)
theorem halfI_len (b l q t : Int) : (halfI b l q t).length = 25 := by simp [halfI, leB_len]
theorem encI_len (b l q t : Int) : (encI b l q t).length = 64 := by simp [encI, halfI_len]
theorem inB_append {a b : List Int} (ha : inB a) (hb : inB b) : inB (a ++ b) := fun x hx => (List.mem_append.1 hx).elim (ha x) (hb x)
theorem halfI_in (b l q t : Int) : inB (halfI b l q t) := by
  unfold halfI
  refine inB_append (inB_append (inB_append (inB_append (inB_append ?_ (leB_in _ _)) (leB_in _ _)) (leB_in _ _)) (leB_in _ _)) (leB_in _ _)
  unfold inB; decide
theorem zeros_in (n : Nat) : inB (List.replicate n 0) := fun x hx => by rw [(List.mem_replicate.1 hx).2]; omega
theorem encI_in (b l q t : Int) : inB (encI b l q t) := inB_append (inB_append (halfI_in _ _ _ _) (zeros_in 7)) (inB_append (halfI_in _ _ _ _) (zeros_in 7))
theorem rep7 : repeatB (bs [0]) 7 = some (toB (List.replicate 7 0)) := by rfl
theorem spec_l01Pad_some (l : List Int) (h : l.length = 25) : spec_l01Pad (toB l) 32 = some (toB (l ++ List.replicate 7 0)) := by
  rw [spec_l01Pad_eq, toB_size, h, sif_f (by omega), wi64_id (by omega) (by omega), show (32 - ((25 : Nat) : Int)) = 7 from rfl, sif_pos (by decide), sif_pos (joinsT (by simp; omega)), toB_append]
  rfl
theorem bsA : bs [65, 82, 82, 83] = toB [65, 82, 82, 83] := rfl
/-! reading numbers -/
theorem top_small {m : List Int} (hm : inB m) (h8 : m.length = 8) : (m[7]? : Option Int).getD 0 ≤ 127 → leN m ≤ 9223372036854775807 := by
  intro ht
  match m, h8 with
  | [a, b, c, d, e, f, g, h], _ =>
    have h0 := hm a (by simp); have h1 := hm b (by simp); have h2 := hm c (by simp); have h3 := hm d (by simp); have h4 := hm e (by simp); have h5 := hm f (by simp); have h6 := hm g (by simp)
    simp at ht
    simp only [leN]; omega
theorem top_big {m : List Int} (hm : inB m) (h8 : m.length = 8) : 127 < (m[7]? : Option Int).getD 0 → wi64 (leN m) < 0 := by
  intro ht
  match m, h8 with
  | [a, b, c, d, e, f, g, h], _ =>
    have h0 := hm a (by simp); have h1 := hm b (by simp); have h2 := hm c (by simp); have h3 := hm d (by simp); have h4 := hm e (by simp); have h5 := hm f (by simp); have h6 := hm g (by simp); have h7 := hm h (by simp)
    simp at ht
    have hN : leN [a, b, c, d, e, f, g, h] = a + 256 * (b + 256 * (c + 256 * (d + 256 * (e + 256 * (f + 256 * (g + 256 * (h + 256 * 0))))))) := rfl
    rw [wi64_def, if_pos (by omega)]; omega
/-! nodeV -/
abbrev Chk := Int × Int × Int × Int
def incr : List Int → Bool
  | a :: b :: r => decide (a < b) && incr (b :: r)
  | _ => true
def okC (c : Chk) : Bool := inr c.1 0 65535 && (inr c.2.1 1 255 && (inr c.2.2.1 0 65535 && inr c.2.2.2 0 255))
def vN (leaf : Bool) (ch : List Chk) (ks kd : List Int) : Bool :=
  if leaf = true then (ks.length == 0) && ((kd.length == 0) && (decide (ch.length ≤ 8) && (incr (ch.map (·.1)) && ch.all okC)))
  else (ch.length == 0) && (inr ks.length 1 7 && (incr ks && (ks.all (fun n => inr n 0 65535) && ((kd.length == ks.length + 1) && kd.all (fun n => inr n 1 255)))))
theorem len0 (n : Nat) : ((n : Int) == 0) = (n == 0) := by
  rw [Bool.eq_iff_iff]; simp
/-! nodeS -/
/-! nodeE -/
theorem repeatL_zero : ∀ n, Lib.repeatL [(0 : UInt8)] n = List.replicate n 0
  | 0 => rfl
  | n + 1 => by rw [Lib.repeatL, repeatL_zero n, List.replicate_succ]; rfl
theorem repB_zero (n : Nat) (hn : n ≤ 64) : repB (bs [0]) n = toB (List.replicate n 0) := by
  have e : (bs [0]).data.toList = [(0 : UInt8)] := rfl
  unfold repB toB
  rw [e, repeatL_zero, List.map_replicate]; rfl
def pad64 (l : List Int) : List Int := l ++ List.replicate (64 - l.length) 0
theorem pad64_len {l : List Int} (h : l.length ≤ 64) : (pad64 l).length = 64 := by simp [pad64]; omega
theorem pad64_in {l : List Int} (h : inB l) : inB (pad64 l) := inB_append h (zeros_in _)
theorem spec_pad_some (l : List Int) (h : l.length ≤ 64) : spec_l01Pad (toB l) 64 = some (toB (pad64 l)) := by
  rw [spec_l01Pad_eq, toB_size]
  by_cases h64 : l.length = 64
  · rw [sif_t (by omega)]
    unfold pad64
    rw [h64]; simp
  · have e : (64 - (l.length : Int)) = ((64 - l.length : Nat) : Int) := by omega
    rw [sif_f (by omega), wi64_id (by omega) (by omega), e, Int.toNat_natCast, le3_ok (by omega) (by omega), room_ok (by omega), show (true && true) = true from rfl, sif_true, sif_pos (joinsT (by simp; omega)), toB_append]
    rfl
def encC (c : Chk) : List Int := leB c.1 2 ++ leB c.2.1 2 ++ leB c.2.2.1 2 ++ leB c.2.2.2 1
def encP (l : List Int) : List Int := l.flatMap (fun n => leB n 2)
def bodyN (leaf : Bool) (ch : List Chk) (ks kd : List Int) : List Int :=
  if leaf = true then leB 1 1 ++ leB (ch.length : Int) 1 ++ ch.flatMap encC else leB 2 1 ++ leB (ks.length : Int) 1 ++ encP kd ++ encP ks
def encN (leaf : Bool) (ch : List Chk) (ks kd : List Int) : List Int := pad64 (bodyN leaf ch ks kd)
theorem encC_len (c : Chk) : (encC c).length = 7 := by simp [encC, leB_len]
theorem encC_in (c : Chk) : inB (encC c) := inB_append (inB_append (inB_append (leB_in _ _) (leB_in _ _)) (leB_in _ _)) (leB_in _ _)
theorem flatC_len (ch : List Chk) : (ch.flatMap encC).length = 7 * ch.length := by
  induction ch with
  | nil => rfl
  | cons c ch ih => rw [List.flatMap_cons, List.length_append, encC_len, ih, List.length_cons]; omega
theorem flatC_in (ch : List Chk) : inB (ch.flatMap encC) := fun x hx => by
  obtain ⟨c, _, h⟩ := List.mem_flatMap.1 hx
  exact encC_in c x h
theorem encP_len (l : List Int) : (encP l).length = 2 * l.length := by
  unfold encP
  induction l with
  | nil => rfl
  | cons c l ih => rw [List.flatMap_cons, List.length_append, leB_len, ih, List.length_cons]; omega
theorem encP_in (l : List Int) : inB (encP l) := fun x hx => by
  obtain ⟨c, _, h⟩ := List.mem_flatMap.1 hx
  exact leB_in _ _ x h
theorem bodyN_in (leaf : Bool) (ch : List Chk) (ks kd : List Int) : inB (bodyN leaf ch ks kd) := by
  unfold bodyN
  split
  · exact inB_append (inB_append (leB_in _ _) (leB_in _ _)) (flatC_in _)
  · exact inB_append (inB_append (inB_append (leB_in _ _) (leB_in _ _)) (encP_in _)) (encP_in _)
theorem vN_leaf {ch : List Chk} {ks kd : List Int} : vN true ch ks kd = true ↔ ks = [] ∧ kd = [] ∧ ch.length ≤ 8 ∧ incr (ch.map (·.1)) = true ∧ ∀ c ∈ ch, okC c = true := by
  unfold vN
  simp only [if_true, Bool.and_eq_true, beq_iff_eq, List.length_eq_zero_iff, decide_eq_true_eq, List.all_eq_true]
theorem vN_inner {ch : List Chk} {ks kd : List Int} : vN false ch ks kd = true ↔ ch = [] ∧ (1 ≤ ks.length ∧ ks.length ≤ 7) ∧ incr ks = true ∧ (∀ n ∈ ks, 0 ≤ n ∧ n ≤ 65535) ∧ kd.length = ks.length + 1 ∧ ∀ n ∈ kd, 1 ≤ n ∧ n ≤ 255 := by
  unfold vN
  simp only [Bool.false_eq_true, if_false, Bool.and_eq_true, beq_iff_eq, List.length_eq_zero_iff, inr_iff, List.all_eq_true]
  constructor
  · rintro ⟨h1, ⟨h2, h3⟩, h4⟩; exact ⟨h1, ⟨by omega, by omega⟩, h4⟩
  · rintro ⟨h1, ⟨h2, h3⟩, h4⟩; exact ⟨h1, ⟨by omega, by omega⟩, h4⟩
theorem bodyN_len {leaf : Bool} {ch : List Chk} {ks kd : List Int} (hv : vN leaf ch ks kd = true) : (bodyN leaf ch ks kd).length ≤ 64 := by
  unfold bodyN
  cases leaf with
  | true =>
    rw [vN_leaf] at hv
    rw [if_pos rfl]; simp only [List.length_append, leB_len, flatC_len]; omega
  | false =>
    rw [vN_inner] at hv
    rw [if_neg (by decide)]; simp only [List.length_append, leB_len, encP_len]; omega
/-! srcL -/
theorem srcNext_some (c : List Int) (at_ seed : Int) (hc : inB c) (h0 : 0 ≤ at_) (h1 : at_ ≤ 4611686018427387904) : ∃ x seed', spec_l00Src_next_wd c at_ seed = some (x, c, at_ + 1, seed') ∧ 0 ≤ x ∧ x ≤ 255 := by
  rw [spec_l00Src_next_wd_eq, wi64_id (n := at_ + 1) (by omega) (by omega)]
  by_cases h : at_ < (c.length : Int)
  · have hl : at_.toNat < c.length := by omega
    have hx := hc _ (List.getElem_mem hl)
    rw [sif_t h, idx_int h0, List.getElem?_eq_getElem hl, sbind_some, wi64_id (by omega) (by omega), sif_t (by omega)]
    exact ⟨_, _, rfl, hx.1, hx.2⟩
  · rw [sif_f h]
    by_cases h2 : at_ + 1 ≤ (c.length : Int)
    · rw [sif_t h2]; exact ⟨_, _, rfl, by omega, by omega⟩
    · rw [sif_f h2]
      refine ⟨_, _, rfl, ?_⟩
      obtain ⟨b1, b2⟩ := bits_and_u64 (Int.fdiv (wu64 ((wu64 ((wu64 (seed * 6364136223846793005)) + 0)) + 1442695040888963407)) (2 ^ 40))
      rw [wi64_id (by omega) (by omega)]
      exact ⟨b1, b2⟩
theorem srcPick_some (n : Int) (c : List Int) (at_ seed : Int) (hc : inB c) (h0 : 0 ≤ at_) (h1 : at_ ≤ 4611686018427387900) (hn : n ≤ 65536) : ∃ x at' seed', spec_l00Src_pick_wd n c at_ seed = some (x, c, at', seed') ∧ 0 ≤ x ∧ (1 ≤ n → x < n) ∧ (n ≤ 1 → x = 0) ∧ at_ ≤ at' ∧ at' ≤ at_ + 2 := by
  rw [spec_l00Src_pick_wd_eq]
  by_cases h : n ≤ 1
  · rw [sif_t h]; exact ⟨_, _, _, rfl, by omega, by omega, by omega, by omega, by omega⟩
  · obtain ⟨x, s1, e1, x0, x1⟩ := srcNext_some c at_ seed hc h0 (by omega)
    rw [sif_f h, e1, sbind_some]
    by_cases h2 : n > 200
    · obtain ⟨y, s2, e2, y0, y1⟩ := srcNext_some c (at_ + 1) s1 hc (by omega) (by omega)
      rw [sif_t h2]
      dsimp only
      rw [e2, sbind_some, sif_f (by omega), wi64_id (n := x * 256) (by omega) (by omega), wi64_id (n := x * 256 + y) (by omega) (by omega)]
      have m0 := Int.tmod_nonneg n (show 0 ≤ x * 256 + y by omega)
      have m1 := Int.tmod_lt_of_pos (x * 256 + y) (show 0 < n by omega)
      exact ⟨_, at_ + 1 + 1, s2, rfl, m0, fun _ => m1, by omega, by omega, by omega⟩
    · rw [sif_f h2, sif_f (by omega)]
      have m0 := Int.tmod_nonneg n x0
      have m1 := Int.tmod_lt_of_pos x (show 0 < n by omega)
      exact ⟨_, at_ + 1, s1, rfl, m0, fun _ => m1, by omega, by omega, by omega⟩
theorem wu8_inB (n : Int) : 0 ≤ wu8 n ∧ wu8 n ≤ 255 := by rw [wu8_def]; omega
theorem srcWord_loop (c : List Int) (hc : inB c) : ∀ (k : Nat) (at_ seed : Int) (out : List Int), 0 ≤ at_ → at_ + k ≤ 4611686018427387900 → inB out → out.length + k ≤ 65536 → ∃ l at' seed', spec_l00Src_word_wd_l3 (k : Int) c at_ seed out = some (toB l, c, at', seed') ∧ inB l ∧ l.length = out.length + k ∧ at_ ≤ at' ∧ at' ≤ at_ + k := by
  intro k
  induction k with
  | zero =>
    intro at_ seed out h0 h1 ho hl
    rw [spec_l00Src_word_wd_l3_eq, sif_f (by omega)]
    exact ⟨out, _, _, rfl, ho, by omega, by omega, by omega⟩
  | succ k ih =>
    intro at_ seed out h0 h1 ho hl
    obtain ⟨x, s1, e1, x0, x1⟩ := srcNext_some c at_ seed hc h0 (by omega)
    obtain ⟨l, a, s, e2, g1, g2, g3, g4⟩ := ih (at_ + 1) s1 (out ++ [wu8 x]) (by omega) (by omega) (fun y hy => by
      rcases List.mem_append.1 hy with hy | hy
      · exact ho y hy
      · rw [List.mem_singleton.1 hy]; exact wu8_inB x) (by simp; omega)
    rw [spec_l00Src_word_wd_l3_eq, sif_t (by omega), e1, sbind_some, sif_pos (room_ok (by omega)), wi64_id (by omega) (by omega), show ((k + 1 : Nat) : Int) - 1 = (k : Int) by omega]
    refine ⟨l, a, s, e2, g1, ?_, by omega, by omega⟩
    rw [g2]; simp; omega
theorem srcWord_some (n : Int) (c : List Int) (at_ seed : Int) (hc : inB c) (h0 : 0 ≤ at_) (hn : n ≤ 65536) (h1 : at_ ≤ 4611686018427000000) : ∃ l at' seed', spec_l00Src_word_wd n c at_ seed = some (toB l, c, at', seed') ∧ inB l ∧ (l.length = 0 ∨ (l.length : Int) < n) ∧ at_ ≤ at' ∧ at' ≤ at_ + 2 + 65536 := by
  rw [spec_l00Src_word_wd_eq]
  obtain ⟨x, a1, s1, e1, x0, x1, x2, a0, a2⟩ := srcPick_some n c at_ seed hc h0 (by omega) hn
  have hx : x < 65536 := by
    by_cases h : n ≤ 1
    · have := x2 h; omega
    · have := x1 (by omega); omega
  rw [e1, sbind_some]
  dsimp only
  obtain ⟨l, a, s, e2, g1, g2, g3, g4⟩ := srcWord_loop c hc x.toNat a1 s1 [] (by omega) (by omega) (fun y hy => by cases hy) (by simp; omega)
  have hxx : ((x.toNat : Nat) : Int) = x := by omega
  rw [hxx] at e2
  refine ⟨l, a, s, e2, g1, ?_, by omega, by omega⟩
  simp at g2
  by_cases h : n ≤ 1
  · have := x2 h; omega
  · have := x1 (by omega); omega
theorem toB_len (l : List Int) : (toB l).size = l.length := toB_size l
/-! srcM -/
theorem srcOne_some (n : Int) (c : List Int) (at_ seed : Int) (hc : inB c) (h0 : 0 ≤ at_) (h1 : at_ ≤ 4611686018427387900) (hn : n ≤ 65536) : ∃ b at' seed', spec_l00Src_one_wd n c at_ seed = some (b, c, at', seed') ∧ at_ ≤ at' ∧ at' ≤ at_ + 2 := by
  obtain ⟨x, a, s, e, _, _, _, a0, a1⟩ := srcPick_some n c at_ seed hc h0 h1 hn
  rw [spec_l00Src_one_wd_eq, e, sbind_some]
  exact ⟨_, _, _, rfl, a0, a1⟩
/-! srcA -/
theorem srcAmong_some (l : List Int) (hl0 : l ≠ []) (hl : l.length ≤ 65536) (c : List Int) (at_ seed : Int) (hc : inB c) (h0 : 0 ≤ at_) (h1 : at_ ≤ 4611686018427387900) : ∃ x at' seed', spec_l00Src_among_wdd l c at_ seed = some (x, c, at', seed') ∧ x ∈ l ∧ at_ ≤ at' ∧ at' ≤ at_ + 2 := by
  have hpos : 0 < l.length := List.length_pos_iff.2 hl0
  obtain ⟨x, a, s, e, x0, x1, _, a0, a1⟩ := srcPick_some (l.length : Int) c at_ seed hc h0 h1 (by omega)
  have hx := x1 (by omega)
  have hlt : x.toNat < l.length := by omega
  rw [spec_l00Src_among_wdd_eq, e, sbind_some]
  dsimp only
  rw [idx_int x0, List.getElem?_eq_getElem hlt, sbind_some]
  exact ⟨_, _, _, rfl, List.getElem_mem hlt, a0, a1⟩
/-! diskD -/
theorem new_l3 (n : Nat) (hn : n ≤ 1000) (f f2 : Int) (o o2 : Bool) (tb : List ByteArray) (tp P : List (Int × ByteArray)) (m : Nat) : ∀ (k : Nat) (B : List ByteArray), n = k + m → B.length + m ≤ 1000 → ∃ B', spec_l09New_l3 (n : Int) (k : Int) f o f2 o2 tb tp B P = some (f2, o2, B', P) ∧ B'.length = B.length + m := by
  induction m with
  | zero => intro k B hk hB; rw [spec_l09New_l3_eq, sif_f (by omega)]; exact ⟨B, rfl, rfl⟩
  | succ m ih =>
    intro k B hk hB
    rw [spec_l09New_l3_eq, sif_t (by omega), spec_l09Zero_eq, sbind_some, sif_pos (room_ok (by omega)), wi64_add1 (by omega)]
    obtain ⟨B', e, h⟩ := ih (k + 1) (B ++ [toB (List.replicate 64 0)]) (by omega) (by simp; omega)
    exact ⟨B', e, by rw [h]; simp; omega⟩
theorem new_some (n : Nat) (hn : n ≤ 256) : ∃ B, spec_l09New (n : Int) = some (-1, false, B, []) ∧ B.length = n := by
  obtain ⟨B, e, h⟩ := new_l3 n (by omega) 0 (-1) false false [] [] [] n 0 [] (by omega) (by simp; omega)
  rw [spec_l09New_eq]
  exact ⟨B, e, by simpa using h⟩
theorem block_l9 (c : List Int) (a s : Int) (n : Nat) (hn : 1 ≤ n) (k : Nat) : ∀ out : List Int, out.length + k = 64 → n ≤ out.length → ∃ b, spec_l09DrawBlock_wd_l9 (n : Int) c a s out = some (b, c, a, s) := by
  induction k with
  | zero => intro out h h2; rw [spec_l09DrawBlock_wd_l9_eq, sif_f (by omega)]; exact ⟨_, rfl⟩
  | succ k ih =>
    intro out h h2
    have m0 := Int.tmod_nonneg (n : Int) (show 0 ≤ (out.length : Int) by omega)
    have m1 := Int.tmod_lt_of_pos (out.length : Int) (show 0 < (n : Int) by omega)
    have hlt : (Int.tmod (out.length : Int) n).toNat < out.length := by omega
    rw [spec_l09DrawBlock_wd_l9_eq, sif_t (by omega), sif_f (by omega), sif_pos (lt3_ok (by omega) (by omega)), List.getElem?_eq_getElem hlt, sbind_some, sif_pos (room_ok (by omega))]
    exact ih _ (by simp; omega) (by simp; omega)
theorem block_l4 (c : List Int) (hc : inB c) (n : Nat) (hn : 1 ≤ n) (h9 : n ≤ 9) (m : Nat) : ∀ (k : Nat) (a s : Int) (out : List Int), n = k + m → out.length = k → 0 ≤ a → a + m ≤ 1000000000 → ∃ b a' s', spec_l09DrawBlock_wd_l4 (n : Int) (k : Int) c a s out = some (b, c, a', s') ∧ a ≤ a' ∧ a' ≤ a + m + 2 := by
  induction m with
  | zero =>
    intro k a s out hk ho h0 h1
    obtain ⟨b, a1, s1, e1, p1, q1⟩ := srcOne_some 3 c a s hc h0 (by omega) (by omega)
    rw [spec_l09DrawBlock_wd_l4_eq, sif_f (by omega), e1, sbind_some]
    cases b with
    | true =>
      dsimp only
      rw [sif_true, spec_pad_some out (by omega), sbind_some]
      exact ⟨_, _, _, rfl, by (try dsimp only); omega, by (try dsimp only); omega⟩
    | false =>
      obtain ⟨b, e⟩ := block_l9 c a1 s1 n hn (64 - out.length) out (by omega) (by omega)
      dsimp only
      rw [sif_false, e]
      exact ⟨_, _, _, rfl, by (try dsimp only); omega, by (try dsimp only); omega⟩
  | succ m ih =>
    intro k a s out hk ho h0 h1
    obtain ⟨x, s1, e1, x0, x1⟩ := srcNext_some c a s hc h0 (by omega)
    rw [spec_l09DrawBlock_wd_l4_eq, sif_t (by omega), e1, sbind_some, sif_pos (room_ok (by omega)), wi64_add1 (by omega)]
    obtain ⟨b, a', s', e, p, q⟩ := ih (k + 1) (a + 1) s1 (out ++ [wu8 x]) (by omega) (by simp; omega) (by omega) (by omega)
    exact ⟨b, a', s', e, by omega, by omega⟩
theorem block_some (c : List Int) (hc : inB c) (a s : Int) (h0 : 0 ≤ a) (h1 : a ≤ 900000000) : ∃ b a' s', spec_l09DrawBlock_wd c a s = some (b, c, a', s') ∧ a ≤ a' ∧ a' ≤ a + 20 := by
  obtain ⟨x, a1, s1, e1, x0, x1, _, p1, q1⟩ := srcPick_some 9 c a s hc h0 (by omega) (by omega)
  have := x1 (by omega)
  obtain ⟨n, rfl⟩ : ∃ n : Nat, x = n := ⟨x.toNat, by omega⟩
  obtain ⟨b, a', s', e, p, q⟩ := block_l4 c hc (n + 1) (by omega) (by omega) (n + 1) 0 a1 s1 [] (by omega) rfl (by omega) (by omega)
  rw [spec_l09DrawBlock_wd_eq, e1, sbind_some]
  dsimp only
  rw [wi64_id (by omega) (by omega), show (1 : Int) + n = ((n + 1 : Nat) : Int) by omega]
  exact ⟨b, a', s', e, by omega, by omega⟩
theorem at_some (c : List Int) (hc : inB c) (a s : Int) (h0 : 0 ≤ a) (h1 : a ≤ 900000000) (B : List ByteArray) (hB : B.length ≤ 256) (P : List (Int × ByteArray)) (f : Int) (o : Bool) : ∃ x a' s', spec_l09DrawAt_wdrdd c a s B P f o = some (x, c, a', s') ∧ a ≤ a' ∧ a' ≤ a + 10 := by
  obtain ⟨b, a1, s1, e1, p1, q1⟩ := srcOne_some 8 c a s hc h0 (by omega) (by omega)
  rw [spec_l09DrawAt_wdrdd_eq, e1, sbind_some]
  cases b with
  | true =>
    obtain ⟨x, a2, s2, e2, _, p2, q2⟩ := srcAmong_some [(-1), (B.length : Int), 300] (by simp) (by simp) c a1 s1 hc (by omega) (by omega)
    dsimp only
    rw [sif_true, e2, sbind_some]
    exact ⟨_, _, _, rfl, by (try dsimp only); omega, by (try dsimp only); omega⟩
  | false =>
    obtain ⟨x, a2, s2, e2, _, _, _, p2, q2⟩ := srcPick_some (B.length : Int) c a1 s1 hc (by omega) (by omega) (by omega)
    dsimp only
    rw [sif_false, e2, sbind_some]
    exact ⟨_, _, _, rfl, by (try dsimp only); omega, by (try dsimp only); omega⟩
theorem draw_k19 (c : List Int) (a s f f2 : Int) (o o2 : Bool) (tb B : List ByteArray) (tp : List (Int × ByteArray)) (m : Nat) : ∀ (k : Nat) (P : List (Int × ByteArray)), k + m = 601 → P.length + m ≤ 2000 → ∃ P', spec_l09Draw_wd_l19 (k : Int) c a s f o f2 o2 tb tp B P = some (f2, o2, c, a, s, B, P') ∧ P'.length ≤ P.length + m := by
  induction m with
  | zero => intro k P hk hP; rw [spec_l09Draw_wd_l19_eq, sif_f (by omega)]; exact ⟨P, rfl, by omega⟩
  | succ m ih =>
    intro k P hk hP
    rw [spec_l09Draw_wd_l19_eq, sif_t (by omega), spec_l09Zero_eq, sbind_some, sif_pos (room_ok (by omega)), wi64_add1 (by omega)]
    obtain ⟨P', e, h⟩ := ih (k + 1) (P ++ [(Int.tmod k 9, toB (List.replicate 64 0))]) (by omega) (by simp; omega)
    exact ⟨P', e, by simp at h; omega⟩
def DkOk (c : List Int) (o : Option (Int × Bool × List Int × Int × Int × List ByteArray × List (Int × ByteArray))) : Prop := ∃ f b a s B P, o = some (f, b, c, a, s, B, P) ∧ 0 ≤ a ∧ a ≤ 800000 ∧ B.length ≤ 256 ∧ P.length ≤ 1300
theorem draw_k9 (n : Int) (hn : n ≤ 100) (c : List Int) (hc : inB c) (f f2 : Int) (o o2 : Bool) (tb B : List ByteArray) (tp : List (Int × ByteArray)) (hB : 16 ≤ B.length) (hB2 : B.length ≤ 256) (k : Nat) : ∀ (a s : Int) (P : List (Int × ByteArray)), 0 ≤ a → a + 30 * k ≤ 600000 → P.length + k ≤ 100 → DkOk c (spec_l09Draw_wd_l9 n (k : Int) c a s f o f2 o2 tb tp B P) := by
  induction k with
  | zero =>
    intro a s P h0 h1 hP
    obtain ⟨x1, a1, s1, e1, _, p1, q1⟩ := srcAmong_some [(-1), (-1), 0, 1, 5, 2] (by simp) (by simp) c a s hc h0 (by omega)
    obtain ⟨b2, a2, s2, e2, p2, q2⟩ := srcOne_some 9 c a1 s1 hc (by omega) (by omega) (by omega)
    obtain ⟨b3, a3, s3, e3, p3, q3⟩ := srcOne_some n c a2 s2 hc (by omega) (by omega) (by omega)
    rw [spec_l09Draw_wd_l9_eq, sif_f (by omega), e1, sbind_some]
    dsimp only
    rw [e2, sbind_some]
    dsimp only
    rw [e3, sbind_some]
    cases b3 with
    | false => exact ⟨_, _, _, _, _, _, rfl, by (try dsimp only); omega, by (try dsimp only); omega, by omega, by omega⟩
    | true =>
      obtain ⟨x, a4, s4, e4, _, _, _, p4, q4⟩ := srcPick_some 6 c a3 s3 hc (by omega) (by omega) (by omega)
      dsimp only
      rw [Bool.not_true, sif_false, e4, sbind_some]
      dsimp only
      cases (x == 0) with
      | true =>
        obtain ⟨y, a5, s5, e5, y0, y1, _, p5, q5⟩ := srcPick_some 7 c a4 s4 hc (by omega) (by omega) (by omega)
        have := y1 (by omega)
        rw [sif_true, e5, sbind_some]
        dsimp only
        rw [wi64_id (by omega) (by omega), sif_pos (le3_ok (by omega) (by omega))]
        exact ⟨_, _, _, _, _, _, rfl, by (try dsimp only); omega, by (try dsimp only); omega, by rw [List.drop_zero, List.length_take]; omega, by (try dsimp only); omega⟩
      | false =>
        rw [sif_false]
        cases (x == 1) with
        | true =>
          obtain ⟨l, a5, s5, e5, _, _, p5, q5⟩ := srcWord_some 70 c a4 s4 hc (by omega) (by omega) (by omega)
          rw [sif_true, e5, sbind_some, sif_pos (lt3_ok (by omega) (by omega))]
          exact ⟨_, _, _, _, _, _, rfl, by (try dsimp only); omega, by (try dsimp only); omega, by rw [List.length_set]; omega, by (try dsimp only); omega⟩
        | false =>
          rw [sif_false]
          cases (x == 2) with
          | true =>
            obtain ⟨y, a5, s5, e5, _, p5, q5⟩ := srcAmong_some [(-1), (B.length : Int), 0] (by simp) (by simp) c a4 s4 hc (by omega) (by omega)
            rw [sif_true, e5, sbind_some, spec_l09Zero_eq, sbind_some, sif_pos (room_ok (by omega))]
            exact ⟨_, _, _, _, _, _, rfl, by (try dsimp only); omega, by (try dsimp only); omega, by (try dsimp only); omega, by simp; omega⟩
          | false =>
            rw [sif_false]
            cases (x == 3) with
            | true =>
              obtain ⟨l, a5, s5, e5, _, _, p5, q5⟩ := srcWord_some 66 c a4 s4 hc (by omega) (by omega) (by omega)
              rw [sif_true, e5, sbind_some, sif_pos (room_ok (by omega))]
              exact ⟨_, _, _, _, _, _, rfl, by (try dsimp only); omega, by (try dsimp only); omega, by (try dsimp only); omega, by simp; omega⟩
            | false =>
              rw [sif_false]
              cases (x == 4) with
              | true =>
                obtain ⟨y, a5, s5, e5, _, p5, q5⟩ := srcAmong_some [(-2), 100001, 100000] (by simp) (by simp) c a4 s4 hc (by omega) (by omega)
                rw [sif_true, e5, sbind_some]
                exact ⟨_, _, _, _, _, _, rfl, by (try dsimp only); omega, by (try dsimp only); omega, by (try dsimp only); omega, by (try dsimp only); omega⟩
              | false =>
                obtain ⟨y, a5, s5, e5, y0, y1, _, p5, q5⟩ := srcPick_some 2 c a4 s4 hc (by omega) (by omega) (by omega)
                have := y1 (by omega)
                obtain ⟨m, rfl⟩ : ∃ m : Nat, y = m := ⟨y.toNat, by omega⟩
                obtain ⟨P', e, h⟩ := draw_k19 c a5 s5 f x1 o b2 tb B tp (601 - m) m P (by omega) (by omega)
                rw [sif_false, e5, sbind_some]
                exact ⟨_, _, _, _, _, _, e, by (try dsimp only); omega, by (try dsimp only); omega, by (try dsimp only); omega, by (try dsimp only); omega⟩
  | succ k ih =>
    intro a s P h0 h1 hP
    obtain ⟨x, a1, s1, e1, _, _, _, p1, q1⟩ := srcPick_some 8 c a s hc h0 (by omega) (by omega)
    obtain ⟨b, a2, s2, e2, p2, q2⟩ := block_some c hc a1 s1 (by omega) (by omega)
    rw [spec_l09Draw_wd_l9_eq, sif_t (by omega), e1, sbind_some]
    dsimp only
    rw [e2, sbind_some, sif_pos (room_ok (by omega)), wi64_id (by omega) (by omega), show ((k + 1 : Nat) : Int) - 1 = (k : Int) by omega]
    exact ih _ _ _ (by (try dsimp only); omega) (by (try dsimp only); omega) (by simp; omega)
theorem draw_k5 (n : Int) (hn : n ≤ 100) (c : List Int) (hc : inB c) (f f2 : Int) (o o2 : Bool) (tb : List ByteArray) (tp : List (Int × ByteArray)) (k : Nat) : ∀ (a s : Int) (B : List ByteArray), 0 ≤ a → a + 30 * k ≤ 100000 → 16 ≤ B.length → B.length ≤ 256 → DkOk c (spec_l09Draw_wd_l5 n (k : Int) c a s f o f2 o2 tb tp B []) := by
  induction k with
  | zero =>
    intro a s B h0 h1 hB hB2
    obtain ⟨x, a1, s1, e1, x0, x1, _, p1, q1⟩ := srcPick_some 7 c a s hc h0 (by omega) (by omega)
    have := x1 (by omega)
    obtain ⟨m, rfl⟩ : ∃ m : Nat, x = m := ⟨x.toNat, by omega⟩
    rw [spec_l09Draw_wd_l5_eq, sif_f (by omega), e1, sbind_some]
    exact draw_k9 n hn c hc f f2 o o2 tb B tp hB hB2 m a1 s1 [] (by omega) (by omega) (by simp; omega)
  | succ k ih =>
    intro a s B h0 h1 hB hB2
    obtain ⟨x, a1, s1, e1, x0, x1, _, p1, q1⟩ := srcPick_some (B.length : Int) c a s hc h0 (by omega) (by omega)
    have := x1 (by omega)
    obtain ⟨b, a2, s2, e2, p2, q2⟩ := block_some c hc a1 s1 (by omega) (by omega)
    rw [spec_l09Draw_wd_l5_eq, sif_t (by omega), e1, sbind_some]
    dsimp only
    rw [e2, sbind_some, sif_pos (lt3_ok (by omega) (by omega)), wi64_id (by omega) (by omega), show ((k + 1 : Nat) : Int) - 1 = (k : Int) by omega]
    exact ih _ _ _ (by (try dsimp only); omega) (by (try dsimp only); omega) (by rw [List.length_set]; omega) (by rw [List.length_set]; omega)
theorem drawDisk_some (n : Int) (hn : n ≤ 100) (c : List Int) (hc : inB c) : DkOk c (spec_l09Draw_wd n c 0 0) := by
  obtain ⟨x, a1, s1, e1, x0, x1, _, p1, q1⟩ := srcPick_some 6 c 0 0 hc (by omega) (by omega) (by omega)
  have := x1 (by omega)
  obtain ⟨m, rfl⟩ : ∃ m : Nat, x = m := ⟨x.toNat, by omega⟩
  obtain ⟨B, eB, lB⟩ := new_some (16 + m) (by omega)
  obtain ⟨b, a2, s2, e2, p2, q2⟩ := srcOne_some 12 c a1 s1 hc (by omega) (by omega) (by omega)
  obtain ⟨y, a3, s3, e3, y0, y1, _, p3, q3⟩ := srcPick_some 6 c a2 s2 hc (by omega) (by omega) (by omega)
  have := y1 (by omega)
  obtain ⟨k, rfl⟩ : ∃ k : Nat, y = k := ⟨y.toNat, by omega⟩
  rw [spec_l09Draw_wd_eq, e1, sbind_some]
  dsimp only
  rw [wi64_id (by omega) (by omega), show (16 : Int) + m = ((16 + m : Nat) : Int) by omega, eB, sbind_some, e2, sbind_some]
  cases b with
  | true =>
    obtain ⟨B2, eB2, lB2⟩ := new_some 256 (by omega)
    dsimp only
    rw [sif_true, show spec_l09New 256 = _ from eB2, sbind_some, e3, sbind_some]
    exact draw_k5 n hn c hc 0 (-1) false false [] [] k a3 s3 B2 (by omega) (by omega) (by omega) (by omega)
  | false =>
    dsimp only
    rw [sif_false, e3, sbind_some]
    exact draw_k5 n hn c hc 0 (-1) false false [] [] k a3 s3 B (by omega) (by omega) (by omega) (by omega)
theorem drawW_tail (c : List Int) (hc : inB c) (a s : Int) (h0 : 0 ≤ a) (h1 : a ≤ 900000) (B : List ByteArray) (hB : B.length ≤ 256) (P : List (Int × ByteArray)) (f : Int) (o : Bool) : ∃ k data, (sbind (spec_l09DrawAt_wdrdd c a s B P f o) fun r1 =>
      sbind (spec_l09DrawBlock_wd r1.2.1 r1.2.2.1 r1.2.2.2) fun r2 =>
      sbind (spec_l00Src_one_wd 9 r2.2.1 r2.2.2.1 r2.2.2.2) fun r3 =>
      sif (r3.1)
       (sbind (spec_l00Src_word_wd 70 r3.2.1 r3.2.2.1 r3.2.2.2) fun r4 =>
        some (B, P, f, o, r1.1, r4.1)) <|
      some (B, P, f, o, r1.1, r2.1)) = some (B, P, f, o, k, data) := by
  obtain ⟨x, a1, s1, e1, p1, q1⟩ := at_some c hc a s h0 (by omega) B hB P f o
  obtain ⟨b, a2, s2, e2, p2, q2⟩ := block_some c hc a1 s1 (by omega) (by omega)
  obtain ⟨b3, a3, s3, e3, p3, q3⟩ := srcOne_some 9 c a2 s2 hc (by omega) (by omega) (by omega)
  rw [e1, sbind_some]
  dsimp only
  rw [e2, sbind_some]
  dsimp only
  rw [e3, sbind_some]
  cases b3 with
  | false => exact ⟨_, _, rfl⟩
  | true =>
    obtain ⟨l, a5, s5, e5, _, _, p5, q5⟩ := srcWord_some 70 c a3 s3 hc (by omega) (by omega) (by omega)
    dsimp only
    rw [sif_true, e5, sbind_some]
    exact ⟨_, _, rfl⟩
theorem drawW_l4 (c : List Int) (hc : inB c) (f f2 : Int) (o o2 : Bool) (tb : List ByteArray) (tp : List (Int × ByteArray)) (B : List ByteArray) (hB : B.length ≤ 256) (m : Nat) : ∀ (a s : Int) (P : List (Int × ByteArray)), 0 ≤ a → a ≤ 900000 → 600 - P.length ≤ m → P.length ≤ 2000 → ∃ P' k data, spec_DrawWriteBlock_l4 f o c a s f2 o2 tb tp B P = some (B, P', f2, o2, k, data) ∧ P'.length ≤ 2000 := by
  induction m with
  | zero =>
    intro a s P h0 h1 hm hP
    obtain ⟨k, data, e⟩ := drawW_tail c hc a s h0 h1 B hB P f2 o2
    rw [spec_DrawWriteBlock_l4_eq, sif_f (by omega), e]
    exact ⟨_, _, _, rfl, hP⟩
  | succ m ih =>
    intro a s P h0 h1 hm hP
    by_cases hlt : (P.length : Int) < 600
    · rw [spec_DrawWriteBlock_l4_eq, sif_t hlt, spec_l09Zero_eq, sbind_some, sif_pos (room_ok (by omega))]
      exact ih a s _ h0 h1 (by simp; omega) (by simp; omega)
    · obtain ⟨k, data, e⟩ := drawW_tail c hc a s h0 h1 B hB P f2 o2
      rw [spec_DrawWriteBlock_l4_eq, sif_f hlt, e]
      exact ⟨_, _, _, rfl, hP⟩
theorem drawW_some (c : List Int) (hc : inB c) : ∃ B P f o k data, spec_DrawWriteBlock c = some (B, P, f, o, k, data) ∧ B.length ≤ 256 ∧ P.length ≤ 2000 := by
  obtain ⟨f, o, a, s, B, P, e, h0, h1, lB, lP⟩ := drawDisk_some 9 (by omega) c hc
  obtain ⟨b, a2, s2, e2, p2, q2⟩ := srcOne_some 12 c a s hc h0 (by omega) (by omega)
  rw [spec_DrawWriteBlock_eq, spec_l00From_eq, sbind_some]
  dsimp only
  rw [e, sbind_some]
  dsimp only
  rw [e2, sbind_some]
  obtain ⟨k, data, et⟩ := drawW_tail c hc a2 s2 (by omega) (by omega) B lB P f o
  cases b with
  | false => dsimp only; rw [sif_false, et]; exact ⟨_, _, _, _, _, _, rfl, lB, by omega⟩
  | true =>
    dsimp only
    rw [sif_true]
    by_cases hlt : (P.length : Int) < 600
    · obtain ⟨P', k, data, e3, l3⟩ := drawW_l4 c hc 0 f false o [] [] B lB 600 a2 s2 P (by omega) (by omega) (by omega) (by omega)
      rw [sif_t hlt, e3]
      exact ⟨_, _, _, _, _, _, rfl, lB, l3⟩
    · rw [sif_f hlt, et]; exact ⟨_, _, _, _, _, _, rfl, lB, by omega⟩
/-! FnExactBarrier -/
def setAll (B : List ByteArray) (P : List (Int × ByteArray)) : List ByteArray := P.foldl (fun B p => B.set p.1.toNat p.2) B
theorem setAll_len : ∀ (P : List (Int × ByteArray)) (B : List ByteArray), (setAll B P).length = B.length
  | [], B => rfl
  | p :: P, B => by show (setAll (B.set p.1.toNat p.2) P).length = _; rw [setAll_len P, List.length_set]
theorem setAll_size : ∀ (P : List (Int × ByteArray)) (B : List ByteArray), (∀ b ∈ B, b.size = 64) → (∀ p ∈ P, p.2.size = 64) → ∀ b ∈ setAll B P, b.size = 64
  | [], B, h, _ => h
  | p :: P, B, h, h' => by
    show ∀ b ∈ setAll (B.set p.1.toNat p.2) P, b.size = 64
    refine setAll_size P _ (fun b hb => ?_) (fun q hq => h' q (by simp [hq]))
    rcases List.mem_or_eq_of_mem_set hb with hb | rfl
    · exact h b hb
    · exact h' p (by simp)
theorem impl_barrier_loop (P : List (Int × ByteArray)) (f : Int) (o : Bool) (n : Nat) (hP : ∀ p ∈ P, 0 ≤ p.1 ∧ p.1 < n ∧ p.2.size = 64) (hl : P.length ≤ 600) (B : List ByteArray) (hB : B.length = n) : impl_Disk_barrier_wvv_l5 (P.length : Int) 0 f o B P = some (0, f, o, setAll B P, []) := by
  have := loop_up P (fun i B => impl_Disk_barrier_wvv_l5 (P.length : Int) (i : Int) f o B P) (fun r B => some (0, f, o, setAll B r, [])) (fun _ B => B.length = n) (fun B hB => by rw [impl_Disk_barrier_wvv_l5_eq, sif_f (by omega)]; rfl)
    (fun i x r B hx hi hd hB ih => by
      obtain ⟨h1, h2, _⟩ := hP x (mem_of_at hx)
      rw [impl_Disk_barrier_wvv_l5_eq, sif_t (by omega)]
      simp only [lt3_ok (show (0 : Int) ≤ (i : Int) by omega) (show (i : Int) < (P.length : Int) by omega), Int.toNat_natCast, hx, sbind_some, sif_true, wi64_add1 (show i < 9223372036854775807 by omega)]
      rw [sif_pos (lt3_ok (by omega) (by omega))]
      exact ih _ (by rw [List.length_set]; exact hB)) 0 B (by omega) hB
  simpa using this
def barrierM (B : List ByteArray) (P : List (Int × ByteArray)) (f : Int) (o : Bool) : Int × Bool × Int × List ByteArray × List (Int × ByteArray) :=
  if diskOk B P f = true then (if (powM f o).1 = true then ((powM f o).2.1, (powM f o).2.2, 0, setAll B P, []) else ((powM f o).2.1, (powM f o).2.2, 13, B, P)) else (0, false, 1, [], [])
/-! FnDisk -/
theorem powered_ok (B : List ByteArray) (P : List (Int × ByteArray)) (f : Int) (o : Bool) : impl_powered B P f o 0 = some (B, P, f, o, 0) := by
  rw [impl_powered_eq]; rfl
theorem powered_no (B : List ByteArray) (P : List (Int × ByteArray)) (f : Int) (o : Bool) : impl_powered B P f o 13 = some (B, P, f, o, 13) := by
  rw [impl_powered_eq]; rfl
theorem write_code (B : List ByteArray) (P : List (Int × ByteArray)) (f : Int) (o : Bool) (k : Int) (data : ByteArray) (h : B.length ≤ 1048576) (h' : P.length ≤ 1048576) : ∃ B' P' f' o' c, impl_WriteBlock B P f o k data = some (B', P', f', o', c) ∧
    (c ≠ 0 ∨ (c = 0 ∧ B' = B ∧ P' = P ++ [(k, data)] ∧ f' = (powM f o).2.1 ∧ o' = (powM f o).2.2 ∧ diskOk B P f = true ∧ data.size = 64 ∧ inr k 0 ((B.length : Int) - 1) = true ∧ (powM f o).1 = true ∧ P.length < 600)) := by
  rw [impl_WriteBlock_eq, impl_ValidDisk_some, sbind_some, impl_Disk_clone_some B P f o h h', sbind_some, impl_isBlock_some, sbind_some, impl_isIndex_some _ _ (by omega) (by omega), sbind_some]
  cases hd : diskOk B P f with
  | false => exact ⟨_, _, _, _, _, rfl, .inl (by decide)⟩
  | true =>
    obtain ⟨_, _, k3, k4, k5, _, k7⟩ := disk_ok hd
    rw [Bool.not_true, sif_false, impl_Disk_write_wvv_eq, impl_power f o B P k4 k5, sbind_some]
    by_cases c : data.size = 64
    · rw [sif_neg (by simp [c])]
      cases hi : inr k 0 ((B.length : Int) - 1) with
      | false => exact ⟨_, _, _, _, _, rfl, .inl (by decide)⟩
      | true =>
        rw [Bool.not_true, sif_false]
        cases hp : (powM f o).1 with
        | false => rw [if_neg (by decide), sif_pos (by rfl), sbind_some, powered_no, sbind_some]; exact ⟨_, _, _, _, _, rfl, .inl (show (13 : Int) ≠ 0 by decide)⟩
        | true =>
          rw [if_pos rfl, sif_neg (by rfl)]
          by_cases c2 : P.length ≥ 600
          · rw [sif_t (by dsimp only; omega), sbind_some, impl_powered_eq]
            exact ⟨_, _, _, _, _, rfl, .inl (show (5 : Int) ≠ 0 by decide)⟩
          · rw [sif_f (by dsimp only; omega), sif_pos (room_ok (show (P.length + 1) * 24 ≤ _ by omega)), sbind_some, powered_ok, sbind_some]
            exact ⟨_, _, _, _, _, rfl, .inr ⟨rfl, rfl, rfl, rfl, rfl, rfl, c, rfl, rfl, by omega⟩⟩
    · rw [sif_pos (by simp; omega)]; exact ⟨_, _, _, _, _, rfl, .inl (by decide)⟩
theorem barrier_code (B : List ByteArray) (P : List (Int × ByteArray)) (f : Int) (o : Bool) (hd : diskOk B P f = true) : ∃ B' P' f' o' c, impl_Barrier B P f o = some (B', P', f', o', c) ∧ -1 ≤ f' ∧ f' ≤ 100000 ∧ ((c = 0 ∧ B' = setAll B P ∧ P' = []) ∨ (c = 13 ∧ B' = B ∧ P' = P)) := by
  obtain ⟨k1, k2, k3, k4, k5, _, k7⟩ := disk_ok hd
  have hpow : -1 ≤ (powM f o).2.1 ∧ (powM f o).2.1 ≤ 100000 := by
    unfold powM
    split
    · exact ⟨k4, k5⟩
    · dsimp only
      rename_i hz
      simp only [Bool.or_eq_true, beq_iff_eq, not_or] at hz
      split <;> omega
  rw [impl_Barrier_eq, impl_ValidDisk_some, sbind_some, impl_Disk_clone_some B P f o (by omega) (by omega), sbind_some, hd, Bool.not_true, sif_false, impl_Disk_barrier_wvv_eq, impl_power f o B P k4 k5, sbind_some]
  cases hp : (powM f o).1 with
  | false => rw [if_neg (by decide), sif_pos (by rfl), sbind_some, powered_no, sbind_some]; exact ⟨_, _, _, _, _, rfl, hpow.1, hpow.2, .inr ⟨rfl, rfl, rfl⟩⟩
  | true => rw [if_pos rfl, sif_neg (by rfl), impl_barrier_loop P _ _ _ k7 k3 B rfl, sbind_some, powered_ok, sbind_some]; exact ⟨_, _, _, _, _, rfl, hpow.1, hpow.2, .inl ⟨rfl, rfl, rfl⟩⟩
theorem pow_ok {f : Int} {o : Bool} (h1 : -1 ≤ f) (h2 : f ≤ 100000) (h : (powM f o).1 = true) : -1 ≤ (powM f o).2.1 ∧ (powM f o).2.1 ≤ 100000 := by
  unfold powM at h ⊢
  split
  · exact ⟨h1, h2⟩
  · dsimp only
    rename_i hz
    simp only [Bool.or_eq_true, beq_iff_eq, not_or] at hz
    split <;> omega
theorem diskOk_mk {B : List ByteArray} {P : List (Int × ByteArray)} {f : Int} (h1 : 16 ≤ B.length) (h2 : B.length ≤ 256) (h3 : P.length ≤ 600) (h4 : -1 ≤ f) (h5 : f ≤ 100000) (h6 : ∀ b ∈ B, b.size = 64) (h7 : ∀ p ∈ P, 0 ≤ p.1 ∧ p.1 < B.length ∧ p.2.size = 64) : diskOk B P f = true := by
  unfold diskOk
  have e1 : inr (B.length : Int) 16 256 = true := by rw [inr_iff]; omega
  have e2 : inr f (-1) 100000 = true := by rw [inr_iff]; omega
  have e3 : decide ((P.length : Int) > 600) = false := by rw [decide_eq_false_iff_not]; omega
  have e4 : B.all (fun b => (b.size : Int) == 64) = true := List.all_eq_true.2 (fun b hb => by rw [beq_iff_eq]; have := h6 b hb; omega)
  have e5 : P.all (putOk B.length) = true := List.all_eq_true.2 (fun p hp => by
    have := h7 p hp
    unfold putOk
    rw [Bool.and_eq_true, inr_iff, beq_iff_eq]; omega)
  rw [e1, e2, e3, e4, e5]; rfl
theorem dkFind_snoc (B : List ByteArray) (P : List (Int × ByteArray)) (k i : Int) (b : ByteArray) : dkFind B (P ++ [(k, b)]) i = if k = i then some b else dkFind B P i := by
  unfold dkFind
  rw [List.reverse_append, List.reverse_singleton, List.singleton_append, List.find?_cons]
  by_cases h : k = i
  · rw [if_pos h, show ((k, b).1 == i) = true by simpa using h]
  · rw [if_neg h, show ((k, b).1 == i) = false by simpa using h]
theorem dkFind_cons (B : List ByteArray) (p : Int × ByteArray) (P : List (Int × ByteArray)) (i : Int) (h0 : 0 ≤ p.1) (h1 : p.1 < B.length) (hi : 0 ≤ i) : dkFind B (p :: P) i = dkFind (B.set p.1.toNat p.2) P i := by
  unfold dkFind
  rw [List.reverse_cons, List.find?_append]
  cases P.reverse.find? (fun q => q.1 == i) with
  | some q => rfl
  | none =>
    simp only [Option.none_or, List.find?_cons, List.find?_nil]
    by_cases h : p.1 = i
    · rw [show (p.1 == i) = true by simpa using h]
      dsimp only
      rw [idx_int hi, h, List.getElem?_set_self (by omega)]
    · rw [show (p.1 == i) = false by simpa using h]
      dsimp only
      rw [idx_int hi, idx_int hi, List.getElem?_set_ne (by omega)]
theorem setAll_find (P : List (Int × ByteArray)) (i : Int) (hi : 0 ≤ i) : ∀ B : List ByteArray, (∀ p ∈ P, 0 ≤ p.1 ∧ p.1 < B.length) → dkFind B P i = idx (setAll B P) i := by
  induction P with
  | nil => intro B _; rfl
  | cons p P ih =>
    intro B h
    have hp := h p (by simp)
    rw [dkFind_cons B p P i hp.1 hp.2 hi, ih _ (fun q hq => by rw [List.length_set]; exact h q (by simp [hq]))]
    rfl
theorem readM_ok {B : List ByteArray} {P : List (Int × ByteArray)} {f k : Int} (h : diskOk B P f = true) (hk : inr k 0 ((B.length : Int) - 1) = true) : ∃ b, dkFind B P k = some b ∧ readM B P f k = (b, 0) := by
  obtain ⟨b, hb, _⟩ := dkFind_ok h hk
  refine ⟨b, hb, ?_⟩
  unfold readM
  rw [if_pos h, if_pos hk, hb]; rfl
theorem pure_FnDisk (code : List Int) (O0 : code.length ≤ maxLen ∧ code.length * 1 ≤ 140737488351232 ∧ ∀ e_ ∈ code, (Lit.int .u8 e_).wf = true) : laws_FnDisk code = some true := by
  have hc : inB code := fun x hx => wf8 (O0.2.2 x hx)
  rw [laws_FnDisk_eq, laws_b10Long_eq, sbind_some]
  by_cases hlong : (code.length : Int) > 1048576
  · rw [decide_eq_true hlong, sif_true]
  · rw [decide_eq_false hlong, sif_false]
    obtain ⟨B, P, f, o, k, data, e, lB, lP⟩ := drawW_some code hc
    obtain ⟨Bx, Px, fx, ox, c, ew, hw⟩ := write_code B P f o k data (by omega) (by omega)
    rw [e, sbind_some]
    dsimp only
    rw [ew, sbind_some]
    dsimp only
    rcases hw with hc0 | ⟨rfl, hB0, rfl, rfl, rfl, hd, hs, hk, hp, hl6⟩
    · rw [show (c != 0) = true by simpa using hc0, sif_true]
    · have hB1 := hB0.symm
      subst hB1
      rw [show ((0 : Int) != 0) = false from rfl, sif_false]
      obtain ⟨k1, k2, k3, k4, k5, k6, k7⟩ := disk_ok hd
      have hpow := pow_ok (f := f) (o := o) k4 k5 hp
      have hk' := inr_iff.1 hk
      have hdx : diskOk B (P ++ [(k, data)]) (powM f o).2.1 = true := diskOk_mk k1 k2 (by simp; omega) hpow.1 hpow.2 k6 (fun p hp => by
        rcases List.mem_append.1 hp with h | h
        · exact k7 p h
        · rw [List.mem_singleton.1 h]; exact ⟨hk'.1, by dsimp only; omega, hs⟩)
      obtain ⟨_, _, x3, x4, x5, _, x7⟩ := disk_ok hdx
      obtain ⟨By, Py, fy, oy, cy, eb, g1, g2, hy⟩ := barrier_code B (P ++ [(k, data)]) (powM f o).2.1 (powM f o).2.2 hdx
      rw [eb, sbind_some]
      dsimp only
      have hByl : By.length = B.length := by
        rcases hy with ⟨_, h, _⟩ | ⟨_, h, _⟩
        · rw [h]; exact setAll_len _ _
        · rw [h]
      have hdy : diskOk By Py fy = true := by
        rcases hy with ⟨_, h, h'⟩ | ⟨_, h, h'⟩ <;> rw [h, h']
        · exact diskOk_mk (by rw [setAll_len]; exact k1) (by rw [setAll_len]; exact k2) (by simp) g1 g2 (setAll_size _ _ k6 (fun p hp => (x7 p hp).2.2)) (fun p hp => by cases hp)
        · exact diskOk_mk k1 k2 x3 g1 g2 k6 x7
      have hfind : ∀ i : Int, 0 ≤ i → dkFind By Py i = dkFind B (P ++ [(k, data)]) i := fun i hi => by
        rcases hy with ⟨_, h, h'⟩ | ⟨_, h, h'⟩ <;> rw [h, h']
        · rw [setAll_find _ i hi B (fun p hp => ⟨(x7 p hp).1, (x7 p hp).2.1⟩)]; rfl
      have hcode : cy = 0 ∨ cy = 13 := by rcases hy with ⟨h, _⟩ | ⟨h, _⟩ <;> omega
      have hPy : cy = 0 → Py = [] := fun h => by rcases hy with ⟨_, _, h2⟩ | ⟨h1, _⟩; exact h2; omega
      have loop : ∀ n i : Nat, B.length = i + n → laws_FnDisk_l11 k data cy (i : Int) B P f o B (P ++ [(k, data)]) (powM f o).2.1 (powM f o).2.2 By Py fy oy = some true := by
        intro n
        induction n with
        | zero =>
          intro i hi
          rw [laws_FnDisk_l11_eq, sif_f (by omega)]
          rcases hcode with rfl | rfl
          · rw [show ((0 : Int) == 13) = false from rfl, sif_false, show ((0 : Int) == 0) = true from rfl, sif_true, hPy rfl, spec_ValidDisk_eq, spec_l09Ok_some]
            rw [hPy rfl] at hdy
            rw [hdy]; rfl
          · rfl
        | succ n ih =>
          intro i hi
          have ih := ih (i + 1) (by omega)
          have hin : inr (i : Int) 0 ((B.length : Int) - 1) = true := by rw [inr_iff]; omega
          obtain ⟨b1, f1, r1⟩ := readM_ok hd hin
          obtain ⟨b2, f2, r2⟩ := readM_ok hdx hin
          obtain ⟨b3, f3, r3⟩ := readM_ok (k := (i : Int)) hdy (by rw [hByl]; exact hin)
          rw [hfind _ (by omega), f2] at f3
          cases f3
          rw [dkFind_snoc] at f2
          have hidx : cy = 0 → idx By (i : Int) = some b2 := fun h => by
            have := hfind (i : Int) (by omega)
            rw [hPy h, dkFind_snoc, f2] at this
            exact this
          rw [laws_FnDisk_l11_eq, sif_t (by omega), impl_ReadBlock_some, sbind_some, impl_ReadBlock_some, sbind_some, impl_ReadBlock_some, sbind_some, r1, r2, r3, wi64_add1 (by omega)]
          simp only [show ((0 : Int) != 0) = false from rfl, sif_false, seq_self, Bool.not_true]
          have key : (sif (cy == 0) (sbind (idx By (i : Int)) fun x4 => sif (!seq x4 b2) (some false) (laws_FnDisk_l11 k data cy ((i + 1 : Nat) : Int) B P f o B (P ++ [(k, data)]) (powM f o).2.1 (powM f o).2.2 By Py fy oy)) (laws_FnDisk_l11 k data cy ((i + 1 : Nat) : Int) B P f o B (P ++ [(k, data)]) (powM f o).2.1 (powM f o).2.2 By Py fy oy)) = some true := by
            rw [ih]
            rcases hcode with h | h
            · rw [hidx h, sbind_some, seq_self, Bool.not_true, sif_false, sif_same]
            · rw [h]; rfl
          by_cases hki : k = (i : Int)
          · rw [if_pos hki] at f2
            cases f2
            rw [show ((i : Int) == k) = true by rw [beq_iff_eq]; exact hki.symm, show ((i : Int) != k) = false by rw [bne_eq_false_iff_eq]; exact hki.symm]
            simp only [sif_true, sif_false, seq_self, Bool.not_true, key, sif_same]
          · rw [if_neg hki, f1] at f2
            cases f2
            rw [show ((i : Int) == k) = false by rw [beq_eq_false_iff_ne]; omega, seq_self, Bool.not_true]
            simp only [sif_false, key]
      have := loop B.length 0 (by omega)
      rw [hByl, bne_self_eq_false, sif_false]
      rw [show laws_FnDisk_l11 k data cy 0 B P f o B (P ++ [(k, data)]) (powM f o).2.1 (powM f o).2.2 By Py fy oy = _ from this, sif_same]
end Go.Ve.X
