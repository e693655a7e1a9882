/- What 'FnExactSourcePaths' comes to, in plain words over numbers, texts and lists: each function that it reaches answers what is told; put together, the law answers true. No condition but the sizes that come in. -/
import Derived.Test.YtaijkhkgjedkaaaGreatDoorPuaFnExactSourcePaths
namespace Go.Ve.X
open Go.Ve
set_option linter.all false
set_option maxRecDepth 100000
theorem rev_loop {α R : Type} (l : List α) (F : Int → Int → List α → Option R) (r : List α → Option R) (hend : ∀ (i j : Int) s, ¬ i < j → F i j s = r s)
    (hstep : ∀ (i j : Int) s x y, i < j → 0 ≤ i → j < l.length → s.length = l.length → s[j.toNat]? = some x → s[i.toNat]? = some y → F i j s = F (i + 1) (j - 1) ((s.set i.toNat x).set j.toNat y)) : F 0 ((l.length : Int) - 1) l = r l.reverse := by
  have := rev_aux l F r hend hstep l.length 0 l (by omega) (by omega) rfl (fun k hk => by rw [if_neg (by omega)])
  simpa using this
/-! bitsL -/
theorem impl_getBits_some (m : List Int) (hm : inB m) (h8 : m.length ≤ 8) : impl_getBits (toB m) = some (leN m) := by
  rw [impl_getBits_eq, toB_size]
  have := loop_to m.length (fun i n => impl_getBits_l3 (toB m) n (m.length : Int) (i : Int)) (fun _ _ => some (leN m)) (fun i n => n = leN (m.take i)) (fun n hn => by
      rw [impl_getBits_l3_eq, sif_f (by omega), hn, List.take_length])
    (fun i n hi hn ih => by
      have hb := hm _ (List.getElem_mem hi)
      have h0 := leN_ge (inB_take hm i)
      have h1 := leN_lt (inB_take hm i)
      rw [List.length_take, show min i m.length = i by omega] at h1
      rw [impl_getBits_l3_eq, sif_t (by omega), bidx_toB hm (by omega), Int.toNat_natCast, List.getElem?_eq_getElem hi, sbind_some, sif_f (by rw [wi64_id (by omega) (by omega)]; omega), or_step (by omega) (by omega) (by omega) hb.1 hb.2, wi64_add1 (by omega)]
      refine ih _ ?_
      rw [hn, List.take_succ_eq_append_getElem hi, leN_append, List.length_take, show min i m.length = i by omega]
      simp [leN]) 0 0 (by omega) rfl
  simpa using this
/-! numL -/
/-! numbers out of bytes -/
theorem wi64_mod (n : Int) : wi64 n % 18446744073709551616 = n % 18446744073709551616 := by
  rw [wi64_def]; split <;> omega
theorem wi64_eqm {a b : Int} (h : a % 18446744073709551616 = b % 18446744073709551616) : wi64 a = wi64 b := by
  rw [wi64_def, wi64_def, h]
theorem or8 (n b : Int) (b0 : 0 ≤ b) (b1 : b ≤ 255) : bits .or .i64 (wi64 (n * 2 ^ 8)) (wi64 b) = wi64 (n * 256 + b) := by
  have e : bits .or .i64 (wi64 (n * 2 ^ 8)) (wi64 b) = wi64 (((BitVec.ofInt 64 (wi64 (n * 2 ^ 8))) ||| (BitVec.ofInt 64 (wi64 b))).toNat : Int) := rfl
  rw [e, BitVec.toNat_or, BitVec.toNat_ofInt, BitVec.toNat_ofInt, show ((2 ^ 64 : Nat) : Int) = 18446744073709551616 by rfl, wi64_mod, wi64_mod, show n * 2 ^ 8 = n * 256 by rfl]
  have hb : (b % 18446744073709551616).toNat = b.toNat := by omega
  obtain ⟨m, hm⟩ : ∃ m : Nat, (n * 256 % 18446744073709551616).toNat = m * 2 ^ 8 := ⟨(n * 256 % 18446744073709551616).toNat / 256, by omega⟩
  rw [hb, hm, Nat.or_comm, or_add (by omega)]
  refine wi64_eqm ?_
  have hm' : ((m * 2 ^ 8 : Nat) : Int) = n * 256 % 18446744073709551616 := by rw [← hm]; omega
  have : ((b.toNat + m * 2 ^ 8 : Nat) : Int) = b + n * 256 % 18446744073709551616 := by rw [Int.natCast_add, hm']; omega
  rw [this]
  omega
theorem wi64_lin (N b : Int) : wi64 (wi64 N * 256 + b) = wi64 (N * 256 + b) := by
  have := wi64_mod N
  refine wi64_eqm ?_
  omega
/-- the bytes, the least first -/
def ordL (g : Bool) (l : List Int) : List Int := if g = true then l.reverse else l
theorem ord_mem {g : Bool} {l : List Int} {x : Int} (h : x ∈ ordL g l) : x ∈ l := by
  unfold ordL at h
  split at h
  · simpa using h
  · exact h
theorem ord_len (g : Bool) (l : List Int) : (ordL g l).length = l.length := by
  unfold ordL; split
  · exact List.length_reverse
  · rfl
theorem ord_in {g : Bool} {l : List Int} (h : inB l) : inB (ordL g l) := fun x hx => h x (ord_mem hx)
def hfS (s : Int) : Int := if s = 1 then 128 else if s = 2 then 32768 else if s = 4 then 2147483648 else 9223372036854775808
def sgn (s : Int) (g : Bool) (U : Int) : Int := if g = true then (if hfS s ≤ U then U - 2 * hfS s else U) else U
theorem spec_num_loop (l : List Int) (hl : inB l) (hn : l.length ≤ 24) (k s : Int) (g b : Bool) (N : List ByteArray) (M : List Int) (E : List (ByteArray × Int × Ty_Type)) (B : List Ty_Type) (c : Int) :
    ∀ j (i : Nat), l.length = i + j → spec_l03Number_l3 (toB l) (wi64 (leN ((ordL b l).drop j))) (i : Int) k s g b N M E B c = spec_l03Number_l3 (toB l) (wi64 (leN (ordL b l))) (l.length : Int) k s g b N M E B c := by
  intro j
  induction j with
  | zero => intro i hi; rw [List.drop_zero, show i = l.length by omega]
  | succ j ih =>
    intro i hi
    have hlt : i < l.length := by omega
    have hj : j < (ordL b l).length := by rw [ord_len]; omega
    have hg : (ordL b l)[j]? = some ((ordL b l)[j]) := List.getElem?_eq_getElem hj
    have hmem : (ordL b l)[j] ∈ l := ord_mem (List.getElem_mem hj)
    have hb := hl _ hmem
    have step : spec_l03Number_l3 (toB l) (wi64 (leN ((ordL b l).drop (j + 1)))) (i : Int) k s g b N M E B c = spec_l03Number_l3 (toB l) (bits .or .i64 (wi64 (wi64 (leN ((ordL b l).drop (j + 1))) * 2 ^ 8)) (wi64 ((ordL b l)[j]))) ((i + 1 : Nat) : Int) k s g b N M E B c := by
      rw [spec_l03Number_l3_eq, toB_size, sif_t (by omega), wi64_add1 (by omega)]
      cases b with
      | true =>
        have e : bidx (toB l) (i : Int) = some ((ordL true l)[j]) := by
          rw [bidx_toB hl (by omega), Int.toNat_natCast, ← hg]
          show l[i]? = (l.reverse)[j]?
          rw [List.getElem?_reverse (by omega)]; congr 1; omega
        rw [sif_true, e, sbind_some]
      | false =>
        have e : bidx (toB l) (wi64 ((wi64 ((l.length : Int) - 1)) - (i : Int))) = some ((ordL false l)[j]) := by
          rw [wi64_id (n := (l.length : Int) - 1) (by omega) (by omega), wi64_id (by omega) (by omega), bidx_toB hl (by omega), ← hg]
          show l[((l.length : Int) - 1 - i).toNat]? = l[j]?
          congr 1; omega
        rw [sif_false, e, sbind_some]
    rw [step, or8 _ _ hb.1 hb.2, wi64_lin, ← ih (i + 1) (by omega)]
    congr 2
    rw [List.drop_eq_getElem_cons hj, leN]
    omega
theorem leN_ord {g : Bool} {l : List Int} (hl : inB l) : 0 ≤ leN (ordL g l) ∧ leN (ordL g l) < 256 ^ l.length := ⟨leN_ge (ord_in hl), by have := leN_lt (ord_in (g := g) hl); rwa [ord_len] at this⟩
theorem spec_num_some (k s : Int) (g b : Bool) (N : List ByteArray) (M : List Int) (E : List (ByteArray × Int × Ty_Type)) (B : List Ty_Type) (c : Int) (l : List Int) (hl : inB l) (hi : iOk s g b = true) (hs : (l.length : Int) = s) : spec_l03Number k s g b N M E B c (toB l) = some (sgn s g (leN (ordL b l))) := by
  obtain ⟨h1, h2⟩ := iOk_in hi
  have hU := leN_ord (g := b) hl
  have lp := spec_num_loop l hl (by omega) k s g b N M E B c l.length 0 (by omega)
  rw [List.drop_eq_nil_of_le (by rw [ord_len]; omega)] at lp
  rw [spec_l03Number_eq]
  refine (show spec_l03Number_l3 (toB l) 0 0 k s g b N M E B c = _ from lp).trans ?_
  generalize leN (ordL b l) = U at hU
  rw [spec_l03Number_l3_eq, toB_size, sif_f (by omega)]
  unfold sgn hfS
  rcases h1 with rfl | rfl | rfl | rfl
  · have e : l.length = 1 := by omega
    rw [e] at hU
    have hU2 : U < 256 := hU.2
    rw [wi64_id (n := U) (by omega) (by omega)]
    cases g with
    | false => rfl
    | true =>
      rw [sif_true]
      show sif (decide (U ≥ 128)) (some (wi64 (U - 256))) (some U) = _
      rw [wi64_id (n := U - 256) (by omega) (by omega), sif_some]
      simp only [decide_eq_true_eq, if_true, ge_iff_le]; congr 1
  · have e : l.length = 2 := by omega
    rw [e] at hU
    have hU2 : U < 65536 := hU.2
    rw [wi64_id (n := U) (by omega) (by omega)]
    cases g with
    | false => rfl
    | true =>
      rw [sif_true]
      show sif (decide (U ≥ 32768)) (some (wi64 (U - 65536))) (some U) = _
      rw [wi64_id (n := U - 65536) (by omega) (by omega), sif_some]
      simp only [decide_eq_true_eq, if_true, ge_iff_le]; congr 1
  · have e : l.length = 4 := by omega
    rw [e] at hU
    have hU2 : U < 4294967296 := hU.2
    rw [wi64_id (n := U) (by omega) (by omega)]
    cases g with
    | false => rfl
    | true =>
      rw [sif_true]
      show sif (decide (U ≥ 2147483648)) (some (wi64 (U - 4294967296))) (some U) = _
      rw [wi64_id (n := U - 4294967296) (by omega) (by omega), sif_some]
      simp only [decide_eq_true_eq, if_true, ge_iff_le]; congr 1
  · have e : l.length = 8 := by omega
    rw [e] at hU
    have hU2 : U < 18446744073709551616 := hU.2
    obtain rfl : g = true := by rcases h2 with h | h; exact h; omega
    rw [sif_true]
    show some (wi64 U) = some (if true = true then (if 9223372036854775808 ≤ U then U - 2 * 9223372036854775808 else U) else U)
    rw [if_pos rfl, wi64_def, show U % 18446744073709551616 = U by omega]
    rfl
theorem impl_rev_some (l : List Int) (hl : inB l) (hn : l.length ≤ 1048576) : impl_ReverseBytes (toB l) = some (toB l.reverse) := by
  rw [impl_ReverseBytes_eq, ofB_toB hl, slices_Reverse_sbyte_byte_v_eq]
  have k := rev_loop l (fun i j s => slices_Reverse_sbyte_byte_v_l1 i j s) (fun s => some s) (fun i j s h => by rw [slices_Reverse_sbyte_byte_v_l1_eq, sif_f h]) (fun i j s x y h1 h2 h3 h4 hx hy => by
    rw [slices_Reverse_sbyte_byte_v_l1_eq, sif_t h1, sif_pos (lt3_ok (by omega) (by omega)), hx, sbind_some, sif_pos (lt3_ok (by omega) (by omega)), hy, sbind_some, sif_pos (lt3_ok (by omega) (by omega)), sif_pos (lt3_ok (by omega) (by rw [List.length_set]; omega)), wi64_id (by omega) (by omega), wi64_id (by omega) (by omega)])
  rw [wi64_id (by omega) (by omega)]
  refine (congrArg (fun z => sbind z fun r1 => some (toB r1)) k).trans ?_
  rfl
/-! numM -/
theorem impl_signed_some (s : Int) (l : List Int) (hl : inB l) (hs : (l.length : Int) = s) (h1 : s = 1 ∨ s = 2 ∨ s = 4 ∨ s = 8) : impl_signed (toB l) = some (sgn s true (leN l)) := by
  have h0 := leN_ge hl
  have hU := leN_lt hl
  rw [impl_signed_eq, impl_getBits_some l hl (by omega), sbind_some, toB_size, hs]
  generalize leN l = U at h0 hU
  unfold sgn hfS
  rcases h1 with rfl | rfl | rfl | rfl
  · have e : l.length = 1 := by omega
    rw [e] at hU
    have hU2 : U < 256 := hU
    show some (Int.fdiv (wi64 (wu64 (U * 72057594037927936))) 72057594037927936) = some (if true = true then (if 128 ≤ U then U - 2 * 128 else U) else U)
    rw [if_pos rfl, wu64_id (by omega) (by omega), wi64_def, Int.fdiv_eq_ediv_of_nonneg _ (by decide)]
    congr 1
    split <;> split <;> omega
  · have e : l.length = 2 := by omega
    rw [e] at hU
    have hU2 : U < 65536 := hU
    show some (Int.fdiv (wi64 (wu64 (U * 281474976710656))) 281474976710656) = some (if true = true then (if 32768 ≤ U then U - 2 * 32768 else U) else U)
    rw [if_pos rfl, wu64_id (by omega) (by omega), wi64_def, Int.fdiv_eq_ediv_of_nonneg _ (by decide)]
    congr 1
    split <;> split <;> omega
  · have e : l.length = 4 := by omega
    rw [e] at hU
    have hU2 : U < 4294967296 := hU
    show some (Int.fdiv (wi64 (wu64 (U * 4294967296))) 4294967296) = some (if true = true then (if 2147483648 ≤ U then U - 2 * 2147483648 else U) else U)
    rw [if_pos rfl, wu64_id (by omega) (by omega), wi64_def, Int.fdiv_eq_ediv_of_nonneg _ (by decide)]
    congr 1
    split <;> split <;> omega
  · have e : l.length = 8 := by omega
    rw [e] at hU
    have hU2 : U < 18446744073709551616 := hU
    show some (Int.fdiv (wi64 (wu64 (U * 1))) 1) = some (if true = true then (if 9223372036854775808 ≤ U then U - 2 * 9223372036854775808 else U) else U)
    rw [if_pos rfl, wu64_id (by omega) (by omega), wi64_def, Int.fdiv_eq_ediv_of_nonneg _ (by decide)]
    congr 1
    split <;> split <;> omega
theorem impl_num_some (k s : Int) (g b : Bool) (N : List ByteArray) (M : List Int) (E : List (ByteArray × Int × Ty_Type)) (B : List Ty_Type) (c : Int) (hk : k ≠ 3) (l : List Int) (hl : inB l) (hi : iOk s g b = true) (hs : (l.length : Int) = s) : impl_Type_number k s g b N M E B c (toB l) = some (sgn s g (leN (ordL b l))) := by
  obtain ⟨h1, h2⟩ := iOk_in hi
  have hU := leN_ord (g := b) hl
  rw [impl_Type_number_eq, kbne hk, sif_false]
  have core : ∀ m : List Int, inB m → m.length = l.length → (sif g (sbind (impl_signed (toB m)) fun r2 => some r2) (sbind (impl_getBits (toB m)) fun r2 => some (wi64 r2))) = some (sgn s g (leN m)) := fun m hm hml => by
    have h0 := leN_ge hm
    have h3 := leN_lt hm
    cases g with
    | true => rw [sif_true, impl_signed_some s m hm (by omega) h1, sbind_some]
    | false =>
      have h4 : s < 8 := by rcases h2 with h | h; cases h; exact h
      have : leN m < 4294967296 := by
        have hp : (256 : Int) ^ m.length ≤ 256 ^ 4 := by
          have : (256 : Nat) ^ m.length ≤ 256 ^ 4 := Nat.pow_le_pow_right (by decide) (by omega)
          exact_mod_cast this
        omega
      rw [sif_false, impl_getBits_some m hm (by omega), sbind_some, wi64_id (by omega) (by omega)]; rfl
  cases b with
  | true =>
    rw [sif_true, impl_rev_some l hl (by omega), sbind_some]
    exact core l.reverse (fun x hx => hl x (by simpa using hx)) List.length_reverse
  | false => exact core l hl rfl
/-! eltA -/
/-! zeros at the end -/
def tzL (l : List Int) : List Int := (l.reverse.dropWhile (· == 0)).reverse
theorem tzL_cons (x : Int) (r : List Int) : tzL (x :: r) = if tzL r = [] then (if x = 0 then [] else [x]) else x :: tzL r := by
  unfold tzL
  rw [List.reverse_cons, List.dropWhile_append]
  cases h : r.reverse.dropWhile (· == 0) with
  | nil =>
    show (List.dropWhile (fun x => x == 0) [x]).reverse = if x = 0 then [] else [x]
    by_cases hx : x = 0
    · subst hx; rfl
    · rw [if_neg hx, List.dropWhile_cons_of_neg (by simpa using hx)]; rfl
  | cons y q =>
    rw [if_neg (by simp), if_neg (by simp), List.reverse_append]; rfl
theorem tzL_all : ∀ l : List Int, decide (tzL l = []) = l.all (· == 0)
  | [] => rfl
  | x :: r => by
    rw [tzL_cons, List.all_cons, ← tzL_all r]
    by_cases h : tzL r = []
    · rw [if_pos h, decide_eq_true h]
      by_cases hx : x = 0
      · subst hx; rfl
      · rw [if_neg hx, decide_eq_false (by simp)]; simp [hx]
    · rw [if_neg h, decide_eq_false h, decide_eq_false (by simp), Bool.and_false]
def txR : Bool → List Int → Bool
  | _, [] => true
  | e, x :: r => if e = true then (if x = 0 then txR true r else false) else txR (x == 0) r
theorem txR_true : ∀ l : List Int, txR true l = l.all (· == 0)
  | [] => rfl
  | x :: r => by
    rw [txR, if_pos rfl, List.all_cons, txR_true r]
    by_cases hx : x = 0
    · rw [if_pos hx, kbeq hx, Bool.true_and]
    · rw [if_neg hx, kbne hx, Bool.false_and]
theorem txR_false : ∀ l : List Int, txR false l = !(tzL l).any (· == 0)
  | [] => rfl
  | x :: r => by
    rw [txR, if_neg Bool.false_ne_true, tzL_cons]
    by_cases hx : x = 0
    · rw [kbeq hx, txR_true, ← tzL_all]
      by_cases h : tzL r = []
      · rw [if_pos h, if_pos hx, decide_eq_true h]; rfl
      · rw [if_neg h, decide_eq_false h, List.any_cons, kbeq hx]; rfl
    · rw [kbne hx, txR_false r]
      by_cases h : tzL r = []
      · rw [if_pos h, if_neg hx, h, List.any_cons, kbne hx]; rfl
      · rw [if_neg h, List.any_cons, kbne hx, Bool.false_or]
theorem dropW_map (f : Int → UInt8) : ∀ (l : List Int), (∀ x ∈ l, (f x == 0) = (x == 0)) → (l.map f).dropWhile (· == 0) = (l.dropWhile (· == 0)).map f
  | [], _ => rfl
  | x :: r, h => by
    have hx := h x (by simp)
    rw [List.map_cons, List.dropWhile_cons, List.dropWhile_cons, hx]
    split
    · exact dropW_map f r (fun y hy => h y (by simp [hy]))
    · rfl
theorem byte_zero {x : Int} (h : 0 ≤ x ∧ x ≤ 255) : ((UInt8.ofNat x.toNat : UInt8) == 0) = (x == 0) := by
  rw [Bool.eq_iff_iff, beq_iff_eq, beq_iff_eq]
  constructor
  · intro e
    have := congrArg UInt8.toNat e
    rw [UInt8.toNat_ofNat'] at this
    have z : (0 : UInt8).toNat = 0 := rfl
    rw [z] at this
    omega
  · intro e; subst e; rfl
theorem tz_in {l : List Int} (h : inB l) : inB (tzL l) := fun x hx => by
  unfold tzL at hx
  exact h x (by simpa using (List.dropWhile_sublist _).subset (List.mem_reverse.1 hx))
theorem impl_trimmed_some (l : List Int) (hl : inB l) (hn : l.length ≤ 1048576) : impl_trimmed (toB l) = some (toB (tzL l)) := by
  rw [impl_trimmed_eq, strings_TrimRight_eq]
  have h1 : oneB (bs [0]) = some 0 := rfl
  have e : trimR1 (toB l) (bs [0]) = some (toB (tzL l)) := by
    unfold trimR1
    rw [h1]
    dsimp only
    rw [if_pos ⟨by decide, by rw [show (toB l).size = l.length by have := toB_size l; omega]; omega⟩]
    congr 1
    show (⟨(Lib.trimRightB (l.map fun n : Int => UInt8.ofNat n.toNat) 0).toArray⟩ : ByteArray) = (⟨((tzL l).map fun n : Int => UInt8.ofNat n.toNat).toArray⟩ : ByteArray)
    unfold Lib.trimRightB tzL
    rw [← List.map_reverse, dropW_map _ _ (fun x hx => byte_zero (hl x (by simpa using hx))), ← List.map_reverse]
  rw [e, sbind_some]
theorem idxB_has : ∀ (l : List UInt8) (c : UInt8), decide (0 ≤ Lib.indexByte l c) = l.any (· == c)
  | [], _ => rfl
  | b :: l, c => by
    have ih := idxB_has l c
    have hg := Lib.indexByte_ge l c
    rw [List.any_cons, Lib.indexByte, ← ih]
    cases b == c with
    | true => rfl
    | false =>
      rw [if_neg Bool.false_ne_true, Bool.false_or]
      by_cases h : Lib.indexByte l c = -1
      · rw [if_pos (by rw [beq_iff_eq]; exact h), h]
      · rw [if_neg (by rw [beq_iff_eq]; exact h), decide_eq_decide]; omega
theorem impl_has0_some (l : List Int) (hl : inB l) : strings_Contains (toB l) (bs [0]) = some (l.any (· == 0)) := by
  rw [strings_Contains_eq]
  have h1 : oneB (bs [0]) = some 0 := rfl
  unfold contains1
  rw [h1]
  dsimp only
  have e : (toB l).data.toList = l.map fun n : Int => UInt8.ofNat n.toNat := by simp [toB]
  rw [e, idxB_has, List.any_map]
  congr 1
  clear e
  induction l with
  | nil => rfl
  | cons x r ih =>
    rw [List.any_cons, List.any_cons, ih (fun y hy => hl y (by simp [hy])), ← byte_zero (hl x (by simp))]
    rfl
theorem spec_text_some (l : List Int) (hl : inB l) (hn : l.length ≤ 1048576) : spec_l03Text (toB l) = some (!(tzL l).any (· == 0)) := by
  rw [spec_l03Text_eq, ← txR_false]
  have key : ∀ n (i : Nat) (e : Bool), l.length = i + n → spec_l03Text_l3 (toB l) e (i : Int) = some (txR e (l.drop i)) := by
    intro n
    induction n with
    | zero => intro i e hi; rw [spec_l03Text_l3_eq, toB_size, sif_f (by omega), List.drop_eq_nil_of_le (by omega)]; cases e <;> rfl
    | succ n ih =>
      intro i e hi
      have hlt : i < l.length := by omega
      have hb : bidx (toB l) (i : Int) = some l[i] := by rw [bidx_toB hl (by omega), Int.toNat_natCast, List.getElem?_eq_getElem hlt]
      rw [spec_l03Text_l3_eq, toB_size, sif_t (by omega), hb, sbind_some, sbind_some, List.drop_eq_getElem_cons hlt, txR, wi64_add1 (by omega)]
      cases e with
      | false => rw [sif_false, sif_false, if_neg Bool.false_ne_true, ih (i + 1) _ (by omega)]
      | true =>
        rw [sif_true, if_pos rfl, sif_true, ih (i + 1) _ (by omega)]
        by_cases hx : l[i] = 0
        · rw [if_pos hx, sif_neg (by rw [bne_eq_false_iff_eq]; exact hx)]
        · rw [if_neg hx, sif_pos (by rw [bne_iff_ne]; exact hx)]
  exact key l.length 0 false (by omega)
/-! eltB -/
/-! elements -/
def sl (l : List Int) (a b : Nat) : List Int := (l.take b).drop a
def zB (l : List Int) : Bool := l.all (· == 0)
def gpM (l : List Int) (size : Int) : Int → List (ByteArray × Int × Ty_Type) → Bool
  | at_, [] => zB (sl l at_.toNat size.toNat)
  | at_, m :: r => zB (sl l at_.toNat m.2.1.toNat) && gpM l size (m.2.1 + szT m.2.2) r
def enE (M : List Int) (l : List Int) : List Ty_Type → Bool
  | [x] => M.any fun y => y == sgn x.f_Size x.f_Signed (leN (ordL x.f_Big l))
  | _ => false
def arE (e : Ty_Type → List Int → Bool) (c : Int) (l : List Int) : List Ty_Type → Bool
  | [x] => (List.range c.toNat).all fun i => e x (sl l (i * (szT x).toNat) ((i + 1) * (szT x).toNat))
  | _ => false
def eT : Nat → Ty_Type → List Int → Bool
  | 0, _, _ => false
  | d + 1, t, l => ((l.length : Int) == szT t) && (if t.f_Kind = 2 then !(tzL l).any (· == 0) else if t.f_Kind = 3 then enE t.f_Nums l t.f_Base
      else if t.f_Kind = 4 then gpM l t.f_Size 0 t.f_Members && t.f_Members.all (fun m => eT d m.2.2 (sl l m.2.1.toNat (m.2.1 + szT m.2.2).toNat)) else if t.f_Kind = 5 then arE (eT d) t.f_Count l t.f_Base else true)
theorem ext_sl (l : List Int) (i j : Nat) : (toB l).extract i j = toB (sl l i j) := extract_toB l i j
theorem sl_in {l : List Int} (h : inB l) (a b : Nat) : inB (sl l a b) := inB_drop (inB_take h b) a
theorem sl_len {l : List Int} {a b : Nat} (h : b ≤ l.length) : (sl l a b).length = b - a := by unfold sl; rw [List.length_drop, List.length_take]; omega
theorem sl_cons {l : List Int} {a b : Nat} (h : a < b) (hb : b ≤ l.length) : sl l a b = (l[a]'(by omega)) :: sl l (a + 1) b := by
  unfold sl
  rw [List.drop_eq_getElem_cons (by rw [List.length_take]; omega), List.getElem_take]
theorem sl_nil {l : List Int} {a b : Nat} (h : b ≤ a) : sl l a b = [] := by
  unfold sl; exact List.drop_eq_nil_of_le (by rw [List.length_take]; omega)
theorem spec_zero_loop (l : List Int) (hl : inB l) (hn : l.length ≤ 1048576) (i to_ : Int) (k s : Int) (g b : Bool) (N : List ByteArray) (M : List Int) (E : List (ByteArray × Int × Ty_Type)) (B : List Ty_Type) (c : Int) (hto : to_ ≤ l.length) :
    ∀ (n a : Nat), to_ = (a : Int) + n → spec_l03Compound_l8 (toB l) (a : Int) i to_ k s g b N M E B c = sif (zB (sl l a to_.toNat)) (spec_l03Compound_l8 (toB l) to_ i to_ k s g b N M E B c) (some false) := by
  intro n
  induction n with
  | zero => intro a ha; rw [sl_nil (by omega), show (a : Int) = to_ by omega]; rfl
  | succ n ih =>
    intro a ha
    have hlt : a < l.length := by omega
    have hb : bidx (toB l) (a : Int) = some l[a] := by rw [bidx_toB hl (by omega), Int.toNat_natCast, List.getElem?_eq_getElem hlt]
    rw [spec_l03Compound_l8_eq, sif_t (by omega), hb, sbind_some, wi64_add1 (by omega), ih (a + 1) (by omega), sl_cons (l := l) (a := a) (b := to_.toNat) (by omega) (by omega)]
    show sif (!(l[a] == 0)) _ _ = sif ((l[a] == 0) && zB (sl l (a + 1) to_.toNat)) _ _
    cases l[a] == 0 <;> rfl
def cmM (e : Ty_Type → List Int → Bool) (l : List Int) (size : Int) : Int → List (ByteArray × Int × Ty_Type) → Bool
  | at_, [] => zB (sl l at_.toNat size.toNat)
  | at_, m :: r => zB (sl l at_.toNat m.2.1.toNat) && (e m.2.2 (sl l m.2.1.toNat (m.2.1 + szT m.2.2).toNat) && cmM e l size (m.2.1 + szT m.2.2) r)
theorem cmM_eq (e : Ty_Type → List Int → Bool) (l : List Int) (size : Int) : ∀ (E : List (ByteArray × Int × Ty_Type)) (a : Int), cmM e l size a E = (gpM l size a E && E.all fun m => e m.2.2 (sl l m.2.1.toNat (m.2.1 + szT m.2.2).toNat))
  | [], a => by rw [List.all_nil, Bool.and_true]; rfl
  | m :: r, a => by
    rw [cmM, gpM, cmM_eq e l size r, List.all_cons]
    cases zB (sl l a.toNat m.2.1.toNat) <;> cases e m.2.2 (sl l m.2.1.toNat (m.2.1 + szT m.2.2).toNat) <;> cases gpM l size (m.2.1 + szT m.2.2) r <;> rfl
theorem spec_cm_loop (d : Nat) (ih : ∀ t l, vT d t = true → inB l → l.length ≤ 1048576 → spec_l03Ok t.f_Kind t.f_Size t.f_Signed t.f_Big t.f_Names t.f_Nums t.f_Members t.f_Base t.f_Count (toB l) = some (eT d t l)) (l : List Int) (hl : inB l) (hn : l.length ≤ 1048576) (k s : Int) (g b : Bool) (N : List ByteArray) (M : List Int) (E : List (ByteArray × Int × Ty_Type)) (B : List Ty_Type) (c : Int) (hs : (l.length : Int) = s) :
    ∀ (r : List (ByteArray × Int × Ty_Type)) (i : Nat) (a : Int), E.drop i = r → E.length = i + r.length → E.length ≤ 4 → 0 ≤ a → cpM (vT d) a r s = true → spec_l03Compound_l3 (toB l) a (i : Int) k s g b N M E B c = some (cmM (eT d) l s a r)
  | [], i, a, hr, hi, hE, h0, hv => by
    have hv : decide (a ≤ s) = true := hv
    rw [decide_eq_true_eq] at hv
    have hi : E.length = i := hi
    rw [spec_l03Compound_l3_eq, sif_t (by omega), sif_f (by omega)]
    have z := spec_zero_loop l hl hn (i : Int) s k s g b N M E B c (by omega) (s - a).toNat a.toNat (by omega)
    rw [show ((a.toNat : Nat) : Int) = a by omega] at z
    rw [z, spec_l03Compound_l8_eq (toB l) s, sif_f (by omega), sif_f (by omega), wi64_add1 (by omega), spec_l03Compound_l3_eq, sif_f (by omega), sif_some]
    show _ = some (zB (sl l a.toNat s.toNat))
    cases zB (sl l a.toNat s.toNat) <;> rfl
  | m :: r, i, a, hr, hi, hE, h0, hv => by
    simp only [cpM, Bool.and_eq_true, Bool.not_eq_true', decide_eq_false_iff_not] at hv
    obtain ⟨v1, v2, v3, v4⟩ := hv
    have hz := vT_size v1
    have hi : E.length = i + (r.length + 1) := hi
    have hlt : i < E.length := by omega
    have hm : E[i]? = some m := by rw [← List.head?_drop, hr]; rfl
    have hle : m.2.1 + szT m.2.2 ≤ s := by
      have key : ∀ (q : List (ByteArray × Int × Ty_Type)) (e : Int), cpM (vT d) e q s = true → e ≤ s := by
        intro q
        induction q with
        | nil => intro e h; simpa [cpM] using h
        | cons y q ihq =>
          intro e h
          simp only [cpM, Bool.and_eq_true, Bool.not_eq_true', decide_eq_false_iff_not] at h
          have := ihq _ h.2.2.2
          have := vT_size h.1
          omega
      exact key r _ v4
    have hnext := spec_cm_loop d ih l hl hn k s g b N M E B c hs r (i + 1) (m.2.1 + szT m.2.2) (by rw [← List.drop_drop, hr]; rfl) (by omega) hE (by omega) v4
    have z := spec_zero_loop l hl hn (i : Int) m.2.1 k s g b N M E B c (by omega) (m.2.1 - a).toNat a.toNat (by omega)
    rw [show ((a.toNat : Nat) : Int) = a by omega] at z
    rw [spec_l03Compound_l3_eq, sif_t (by omega), sif_t (by omega), idx_some hm, sbind_some, z, spec_l03Compound_l8_eq (toB l) m.2.1, sif_f (by omega), sif_t (by omega), idx_some hm, sbind_some, spec_size_some v1, sbind_some, sbind_some, wi64_id (n := m.2.1 + szT m.2.2) (by omega) (by omega), toB_size, sif_pos (le3_ok (by omega) (by omega)), sif_pos (le3_ok (by omega) (by omega)), ext_sl, ih _ _ v1 (sl_in hl _ _) (by have := sl_len (l := l) (a := m.2.1.toNat) (b := (m.2.1 + szT m.2.2).toNat) (by omega); omega), sbind_some, wi64_add1 (by omega), hnext]
    show _ = some (zB (sl l a.toNat m.2.1.toNat) && (eT d m.2.2 (sl l m.2.1.toNat (m.2.1 + szT m.2.2).toNat) && cmM (eT d) l s (m.2.1 + szT m.2.2) r))
    show sif _ (sif (!eT d m.2.2 (sl l m.2.1.toNat (m.2.1 + szT m.2.2).toNat)) _ _) _ = _
    cases zB (sl l a.toNat m.2.1.toNat) <;> cases eT d m.2.2 (sl l m.2.1.toNat (m.2.1 + szT m.2.2).toNat) <;> rfl
/-! eltC -/
theorem arr_bounds {c z : Int} {n : Nat} (hc : 1 ≤ c ∧ c ≤ 4) (hz : 1 ≤ z ∧ z ≤ 24) (hn : (n : Int) = c * z) {i : Nat} (hi : i < c.toNat) : (i : Int) * z = ((i * z.toNat : Nat) : Int) ∧ ((i : Int) + 1) * z = (((i + 1) * z.toNat : Nat) : Int) ∧ i * z.toNat ≤ (i + 1) * z.toNat ∧ (i + 1) * z.toNat ≤ n ∧ (i + 1) * z.toNat ≤ 96 := by
  have hzn : (z.toNat : Int) = z := by omega
  have e1 : (i : Int) * z = ((i * z.toNat : Nat) : Int) := by rw [Int.natCast_mul, hzn]
  have e2 : ((i : Int) + 1) * z = (((i + 1) * z.toNat : Nat) : Int) := by rw [Int.natCast_mul, hzn]; rfl
  have e3 : (i + 1) * z.toNat ≤ c.toNat * z.toNat := Nat.mul_le_mul_right _ (by omega)
  have e4 : ((c.toNat * z.toNat : Nat) : Int) = c * z := by rw [Int.natCast_mul, hzn, show (c.toNat : Int) = c by omega]
  have e5 : c.toNat * z.toNat ≤ 4 * 24 := Nat.mul_le_mul (by omega) (by omega)
  exact ⟨e1, e2, Nat.mul_le_mul_right _ (by omega), by omega, by omega⟩
theorem spec_arr_loop (d : Nat) (ih : ∀ t l, vT d t = true → inB l → l.length ≤ 1048576 → spec_l03Ok t.f_Kind t.f_Size t.f_Signed t.f_Big t.f_Names t.f_Nums t.f_Members t.f_Base t.f_Count (toB l) = some (eT d t l)) (l : List Int) (hl : inB l) (hn : l.length ≤ 1048576) (x : Ty_Type) (hx : vT d x = true) (k s : Int) (g b : Bool) (N : List ByteArray) (M : List Int) (E : List (ByteArray × Int × Ty_Type)) (B : List Ty_Type) (c : Int) (hB : B = [x]) (hc : 1 ≤ c ∧ c ≤ 4) (hs : (l.length : Int) = c * szT x) :
    spec_l03Ok_l13 (toB l) (szT x) 0 k s g b N M E B c = some (arE (eT d) c l [x]) := by
  have hz := vT_size hx
  have k0 := all_loop (List.range c.toNat) (fun i => eT d x (sl l (i * (szT x).toNat) ((i + 1) * (szT x).toNat))) (fun i => spec_l03Ok_l13 (toB l) (szT x) (i : Int) k s g b N M E B c) false (fun i y hy hi => by
    rw [List.length_range] at hi
    rw [List.getElem?_range hi, Option.some.injEq] at hy
    subst hy
    obtain ⟨b1, b2, b3, b4, b5⟩ := arr_bounds hc hz hs hi
    show spec_l03Ok_l13 (toB l) (szT x) (i : Int) k s g b N M E B c = _
    rw [spec_l03Ok_l13_eq, sif_t (by omega), hB]
    show sif _ (sif _ (sbind (spec_l03Ok x.f_Kind x.f_Size x.f_Signed x.f_Big x.f_Names x.f_Nums x.f_Members x.f_Base x.f_Count _) _) _) _ = _
    rw [wi64_id (n := (i : Int) + 1) (by omega) (by omega), b1, b2, wi64_id (n := ((i * (szT x).toNat : Nat) : Int)) (by omega) (by omega), wi64_id (n := (((i + 1) * (szT x).toNat : Nat) : Int)) (by omega) (by omega), toB_size, sif_pos (le3_ok (by omega) (by omega)), sif_pos (le3_ok (by omega) (by omega)), Int.toNat_natCast, Int.toNat_natCast, ext_sl, ih _ _ hx (sl_in hl _ _) (by rw [sl_len b4]; omega), sbind_some, sif_not]
    rfl)
  refine k0.trans ?_
  show sif _ (spec_l03Ok_l13 (toB l) (szT x) ((List.range c.toNat).length : Nat) k s g b N M E B c) _ = _
  rw [List.length_range, spec_l03Ok_l13_eq, sif_f (by omega), sif_some]
  show _ = some ((List.range c.toNat).all _)
  cases (List.range c.toNat).all fun i => eT d x (sl l (i * (szT x).toNat) ((i + 1) * (szT x).toNat)) <;> rfl
theorem enM_all {N : List ByteArray} {M : List Int} {x : Ty_Type} (h : enM N M x = true) : M.length ≤ 6 := by
  unfold enM at h
  simp only [Bool.and_eq_true, inr_iff] at h
  omega
theorem szT_k3 {t x : Ty_Type} (hk : t.f_Kind = 3) (hx : t.f_Base = [x]) : szT t = x.f_Size := by rw [szT_eq, if_pos hk, hx]
theorem szT_k5 {t x : Ty_Type} (hk : t.f_Kind = 5) (hx : t.f_Base = [x]) : szT t = t.f_Count * szT x := by rw [szT_eq, if_neg (by omega), if_pos hk, hx]
theorem szT_o {t : Ty_Type} (h3 : t.f_Kind ≠ 3) (h5 : t.f_Kind ≠ 5) : szT t = t.f_Size := by rw [szT_eq, if_neg h3, if_neg h5]
theorem eT_succ (d : Nat) (t : Ty_Type) (l : List Int) : eT (d + 1) t l = (((l.length : Int) == szT t) && (if t.f_Kind = 2 then !(tzL l).any (· == 0) else if t.f_Kind = 3 then enE t.f_Nums l t.f_Base
      else if t.f_Kind = 4 then gpM l t.f_Size 0 t.f_Members && t.f_Members.all (fun m => eT d m.2.2 (sl l m.2.1.toNat (m.2.1 + szT m.2.2).toNat)) else if t.f_Kind = 5 then arE (eT d) t.f_Count l t.f_Base else true)) := rfl
theorem spec_elt_some : ∀ (d : Nat) (t : Ty_Type) (l : List Int), vT d t = true → inB l → l.length ≤ 1048576 → spec_l03Ok t.f_Kind t.f_Size t.f_Signed t.f_Big t.f_Names t.f_Nums t.f_Members t.f_Base t.f_Count (toB l) = some (eT d t l)
  | 0, _, _, h, _, _ => by cases h
  | d + 1, t, l, h, hl, hn => by
    have ih := spec_elt_some d
    rw [spec_l03Ok_eq, spec_size_some h, sbind_some, toB_size, eT_succ]
    by_cases hs : (l.length : Int) = szT t
    · rw [sif_neg (by rw [bne_eq_false_iff_eq]; exact hs), kbeq hs, Bool.true_and]
      rcases vT_kinds h with ⟨hk, h1⟩ | ⟨hk, h1⟩ | ⟨hk, x, hx, h1⟩ | ⟨hk, h1, h2, h3⟩ | ⟨hk, h1, x, hx, h2, h3⟩ | ⟨hk, h1⟩
      · rw [hk]; rfl
      · rw [if_pos hk, kbeq hk, sif_true, spec_text_some l hl hn, sbind_some]
      · rw [if_neg (by omega), if_pos hk, kbne (show t.f_Kind ≠ 2 by omega), kbeq hk, sif_false, sif_true, hx]
        have hi := enM_base h1
        have hz := iOk_size hi.2
        have hM := enM_all h1
        show sbind (spec_l03Number x.f_Kind x.f_Size x.f_Signed x.f_Big x.f_Names x.f_Nums x.f_Members x.f_Base x.f_Count (toB l)) _ = _
        rw [spec_num_some _ _ _ _ _ _ _ _ _ l hl hi.2 (by rw [hs, szT_k3 hk hx]), sbind_some, spec_has_some _ _ (by omega), sbind_some]
        rfl
      · rw [if_neg (by omega), if_neg (by omega), if_pos hk, kbne (show t.f_Kind ≠ 2 by omega), kbne (show t.f_Kind ≠ 3 by omega), kbeq hk, sif_false, sif_false, sif_true, spec_l03Compound_eq]
        have lp := spec_cm_loop d ih l hl hn t.f_Kind t.f_Size t.f_Signed t.f_Big t.f_Names t.f_Nums t.f_Members t.f_Base t.f_Count (by rw [hs, szT_o (by omega) (by omega)]) t.f_Members 0 0 rfl (by omega) (by omega) (by omega) h3
        rw [show spec_l03Compound_l3 (toB l) 0 0 t.f_Kind t.f_Size t.f_Signed t.f_Big t.f_Names t.f_Nums t.f_Members t.f_Base t.f_Count = _ from lp, sbind_some, cmM_eq]
      · rw [if_neg (by omega), if_neg (by omega), if_neg (by omega), if_pos hk, kbne (show t.f_Kind ≠ 2 by omega), kbne (show t.f_Kind ≠ 3 by omega), kbne (show t.f_Kind ≠ 4 by omega), kbeq hk, sif_false, sif_false, sif_false, sif_true, hx]
        show sbind (spec_l02Size x.f_Kind x.f_Size x.f_Signed x.f_Big x.f_Names x.f_Nums x.f_Members x.f_Base x.f_Count) _ = _
        rw [spec_size_some h2, sbind_some, spec_arr_loop d ih l hl hn x h2 _ _ _ _ _ _ _ _ _ rfl h1 (by rw [hs, szT_k5 hk hx])]
      · rw [hk]; rfl
    · rw [sif_pos (by rw [bne_iff_ne]; exact hs), kbne hs, Bool.false_and]
/-! eltD -/
/-! the gaps, the program's way -/
def clM (l : List Int) (m : ByteArray × Int × Ty_Type) : List Int := l.take m.2.1.toNat ++ (List.replicate ((m.2.1 + szT m.2.2).toNat - m.2.1.toNat) (0 : Int) ++ l.drop (m.2.1.toNat + (List.replicate ((m.2.1 + szT m.2.2).toNat - m.2.1.toNat) (0 : Int)).length))
def clr : List Int → List (ByteArray × Int × Ty_Type) → List Int
  | l, [] => l
  | l, m :: r => clr (clM l m) r
theorem cpM_end {v : Ty_Type → Bool} (hv : ∀ t, v t = true → 1 ≤ szT t) {s : Int} : ∀ {q : List (ByteArray × Int × Ty_Type)} {e : Int}, cpM v e q s = true → e ≤ s
  | [], e, h => by simpa [cpM] using h
  | y :: q, e, h => by
    simp only [cpM, Bool.and_eq_true, Bool.not_eq_true', decide_eq_false_iff_not] at h
    have h1 := cpM_end hv h.2.2.2
    have h2 := hv _ h.1
    omega
theorem clM_len {l : List Int} {m : ByteArray × Int × Ty_Type} (h0 : 0 ≤ m.2.1) (hz : 1 ≤ szT m.2.2) (h : m.2.1 + szT m.2.2 ≤ l.length) : (clM l m).length = l.length := by
  unfold clM
  rw [List.length_append, List.length_append, List.length_take, List.length_replicate, List.length_drop]
  omega
theorem clM_in {l : List Int} {m : ByteArray × Int × Ty_Type} (h : inB l) : inB (clM l m) := by
  intro x hx
  unfold clM at hx
  rcases List.mem_append.1 hx with hx | hx
  · exact h x (List.mem_of_mem_take hx)
  · rcases List.mem_append.1 hx with hx | hx
    · rw [(List.mem_replicate.1 hx).2]; omega
    · exact h x (List.mem_of_mem_drop hx)
theorem zB_append (a b : List Int) : zB (a ++ b) = (zB a && zB b) := List.all_append
theorem sl_drop (l : List Int) (a b : Nat) : sl l a b = (l.drop a).take (b - a) := List.drop_take
theorem gpM_congr (v : Ty_Type → Bool) (hv : ∀ t, v t = true → 1 ≤ szT t) (l l' : List Int) (s : Int) : ∀ (r : List (ByteArray × Int × Ty_Type)) (a : Int), 0 ≤ a → cpM v a r s = true → l.drop a.toNat = l'.drop a.toNat → gpM l s a r = gpM l' s a r
  | [], a, _, _, h => by show zB (sl l _ _) = zB (sl l' _ _); rw [sl_drop, sl_drop, h]
  | m :: r, a, h0, hc, h => by
    simp only [cpM, Bool.and_eq_true, Bool.not_eq_true', decide_eq_false_iff_not] at hc
    have hz := hv _ hc.1
    rw [gpM, gpM, sl_drop, sl_drop, h, gpM_congr v hv l l' s r (m.2.1 + szT m.2.2) (by omega) hc.2.2.2 (by
      have e : (m.2.1 + szT m.2.2).toNat = a.toNat + ((m.2.1 + szT m.2.2).toNat - a.toNat) := by omega
      rw [e, ← List.drop_drop, ← List.drop_drop, h])]
theorem clr_gaps (v : Ty_Type → Bool) (hv : ∀ t, v t = true → 1 ≤ szT t) (s : Int) : ∀ (r : List (ByteArray × Int × Ty_Type)) (a : Int) (l : List Int), 0 ≤ a → cpM v a r s = true → (l.length : Int) = s → zB (clr l r) = (zB (l.take a.toNat) && gpM l s a r)
  | [], a, l, h0, hc, hl => by
    show zB l = (zB (l.take a.toNat) && zB (sl l a.toNat s.toNat))
    rw [← zB_append]
    congr 1
    unfold sl
    rw [List.take_of_length_le (by omega : l.length ≤ s.toNat), List.take_append_drop]
  | m :: r, a, l, h0, hc, hl => by
    have hc' := hc
    simp only [cpM, Bool.and_eq_true, Bool.not_eq_true', decide_eq_false_iff_not] at hc
    have hz := hv _ hc.1
    have hle := cpM_end hv hc.2.2.2
    have hlen := clM_len (l := l) (m := m) (by omega) hz (by omega)
    show zB (clr (clM l m) r) = _
    rw [clr_gaps v hv s r (m.2.1 + szT m.2.2) (clM l m) (by omega) hc.2.2.2 (by omega), gpM, ← Bool.and_assoc]
    have e1 : (clM l m).take (m.2.1 + szT m.2.2).toNat = l.take m.2.1.toNat ++ List.replicate ((m.2.1 + szT m.2.2).toNat - m.2.1.toNat) (0 : Int) := by
      unfold clM
      rw [← List.append_assoc, List.take_append_of_le_length (by rw [List.length_append, List.length_take, List.length_replicate]; omega), List.take_of_length_le (by rw [List.length_append, List.length_take, List.length_replicate]; omega)]
    have e2 : (clM l m).drop (m.2.1 + szT m.2.2).toNat = l.drop (m.2.1 + szT m.2.2).toNat := by
      unfold clM
      rw [← List.append_assoc, List.length_replicate, List.drop_append_of_le_length (by rw [List.length_append, List.length_take, List.length_replicate]; omega), List.drop_eq_nil_of_le (by rw [List.length_append, List.length_take, List.length_replicate]; omega), List.nil_append]
      congr 1; omega
    have e3 : zB (List.replicate ((m.2.1 + szT m.2.2).toNat - m.2.1.toNat) (0 : Int)) = true := by
      unfold zB; rw [List.all_eq_true]; intro x hx; rw [(List.mem_replicate.1 hx).2]; rfl
    have e4 : zB (l.take m.2.1.toNat) = (zB (l.take a.toNat) && zB (sl l a.toNat m.2.1.toNat)) := by
      rw [← zB_append]
      congr 1
      have := List.take_append_drop a.toNat (l.take m.2.1.toNat)
      rw [List.take_take, Nat.min_eq_left (by omega)] at this
      exact this.symm
    rw [e1, zB_append, e3, Bool.and_true, e4, gpM_congr v hv (clM l m) l s r (m.2.1 + szT m.2.2) (by omega) hc.2.2.2 e2]
theorem impl_gaps_loop (d : Nat) (E : List (ByteArray × Int × Ty_Type)) (hE : E.length ≤ 4) (s : Int) (hs : s ≤ 24) :
    ∀ (r : List (ByteArray × Int × Ty_Type)) (i : Nat) (a : Int) (l : List Int), E.drop i = r → E.length = i + r.length → 0 ≤ a → cpM (vT d) a r s = true → (l.length : Int) = s → inB l → impl_Type_gapsOk_l3 E (E.length : Int) (i : Int) l = some (zB (clr l r))
  | [], i, a, l, hr, hi, h0, hc, hl, hb => by
    have hi : E.length = i := hi
    rw [impl_Type_gapsOk_l3_eq, sif_f (by omega), impl_trimmed_some l hb (by omega), sbind_some]
    have e : seq (toB (tzL l)) (bs []) = decide (tzL l = []) := seq_toB (a := tzL l) (b := []) (tz_in hb) (fun x hx => by cases hx)
    rw [e, tzL_all]; rfl
  | m :: r, i, a, l, hr, hi, h0, hc, hl, hb => by
    have hc' := hc
    simp only [cpM, Bool.and_eq_true, Bool.not_eq_true', decide_eq_false_iff_not] at hc
    have hz := vT_size hc.1
    have hle := cpM_end (fun t h => (vT_size h).1) hc.2.2.2
    have hi : E.length = i + (r.length + 1) := hi
    have hm : E[i]? = some m := by rw [← List.head?_drop, hr]; rfl
    have hlen := clM_len (l := l) (m := m) (by omega) hz.1 (by omega)
    have ih := impl_gaps_loop d E hE s hs r (i + 1) (m.2.1 + szT m.2.2) (clM l m) (by rw [← List.drop_drop, hr]; rfl) (by omega) (by omega) hc.2.2.2 (by omega) (clM_in hb)
    rw [impl_Type_gapsOk_l3_eq, sif_t (by omega), idx_some hm, sbind_some, impl_size_some hc.1, sbind_some, wi64_id (n := m.2.1 + szT m.2.2) (by omega) (by omega), sif_pos (le3_ok (by omega) (by omega)), sif_pos (le3_ok (by omega) (by omega)), wi64_add1 (by omega)]
    exact ih
/-! the parts -/
theorem room144 {n : Nat} (h : n ≤ 100) : room n 144 = true := by
  unfold room
  exact Nat.ble_eq_true_of_le (by omega)
def partM (l : List Int) (m : ByteArray × Int × Ty_Type) : Ty_Type × ByteArray := (m.2.2, toB (sl l m.2.1.toNat (m.2.1 + szT m.2.2).toNat))
theorem impl_parts_loop (d : Nat) (l : List Int) (E : List (ByteArray × Int × Ty_Type)) (hE : E.length ≤ 4) (s : Int) (hs : s ≤ 24) (hl : (l.length : Int) = s) :
    ∀ (r : List (ByteArray × Int × Ty_Type)) (i : Nat) (a : Int) (out : List (Ty_Type × ByteArray)), E.drop i = r → E.length = i + r.length → 0 ≤ a → cpM (vT d) a r s = true → out.length ≤ 10 + i → impl_Type_parts_l5 (toB l) E (E.length : Int) (i : Int) out = some (out ++ r.map (partM l))
  | [], i, a, out, hr, hi, h0, hc, ho => by
    have hi : E.length = i := hi
    rw [impl_Type_parts_l5_eq, sif_f (by omega), List.map_nil, List.append_nil]
  | m :: r, i, a, out, hr, hi, h0, hc, ho => by
    simp only [cpM, Bool.and_eq_true, Bool.not_eq_true', decide_eq_false_iff_not] at hc
    have hz := vT_size hc.1
    have hle := cpM_end (fun t h => (vT_size h).1) hc.2.2.2
    have hi : E.length = i + (r.length + 1) := hi
    have hm : E[i]? = some m := by rw [← List.head?_drop, hr]; rfl
    have ih := impl_parts_loop d l E hE s hs hl r (i + 1) (m.2.1 + szT m.2.2) (out ++ [partM l m]) (by rw [← List.drop_drop, hr]; rfl) (by omega) (by omega) hc.2.2.2 (by rw [List.length_append, List.length_singleton]; omega)
    rw [impl_Type_parts_l5_eq, sif_t (by omega), idx_some hm, sbind_some, impl_size_some hc.1, sbind_some, wi64_id (n := m.2.1 + szT m.2.2) (by omega) (by omega), toB_size, sif_pos (le3_ok (by omega) (by omega)), sif_pos (le3_ok (by omega) (by omega)), sif_pos (room144 (by omega)), wi64_add1 (by omega), ext_sl, Ty_Type.eta]
    refine ih.trans ?_
    rw [List.map_cons, List.append_assoc]; rfl
theorem impl_parts_arr (l : List Int) (x : Ty_Type) (k s : Int) (g b : Bool) (N : List ByteArray) (M : List Int) (E : List (ByteArray × Int × Ty_Type)) (B : List Ty_Type) (c : Int) (hB : B = [x]) (hz : 1 ≤ szT x ∧ szT x ≤ 24) (hc : 1 ≤ c ∧ c ≤ 4) (hs : (l.length : Int) = c * szT x) :
    ∀ (n i : Nat) (out : List (Ty_Type × ByteArray)), c.toNat = i + n → out.length ≤ 10 + i → impl_Type_parts_l12 (toB l) (szT x) c (i : Int) k s g b N M E B c out = some (out ++ ((List.range c.toNat).drop i).map fun i => (x, toB (sl l (i * (szT x).toNat) ((i + 1) * (szT x).toNat)))) := by
  intro n
  induction n with
  | zero =>
    intro i out hi ho
    rw [impl_Type_parts_l12_eq, sif_f (by omega), List.drop_eq_nil_of_le (by rw [List.length_range]; omega), List.map_nil, List.append_nil]
  | succ n ih =>
    intro i out hi ho
    obtain ⟨b1, b2, b3, b4, b5⟩ := arr_bounds hc hz hs (i := i) (by omega)
    have ih := ih (i + 1) (out ++ [(x, toB (sl l (i * (szT x).toNat) ((i + 1) * (szT x).toNat)))]) (by omega) (by rw [List.length_append, List.length_singleton]; omega)
    have hx : idx B 0 = some x := by rw [hB]; rfl
    rw [impl_Type_parts_l12_eq, sif_t (by omega), hx, sbind_some, wi64_id (n := (i : Int) + 1) (by omega) (by omega), b1, b2, wi64_id (n := ((i * (szT x).toNat : Nat) : Int)) (by omega) (by omega), wi64_id (n := (((i + 1) * (szT x).toNat : Nat) : Int)) (by omega) (by omega), toB_size, sif_pos (le3_ok (by omega) (by omega)), sif_pos (le3_ok (by omega) (by omega)), sif_pos (room144 (by omega)), Int.toNat_natCast, Int.toNat_natCast, ext_sl, Ty_Type.eta]
    refine (show impl_Type_parts_l12 (toB l) (szT x) c ((i : Int) + 1) k s g b N M E B c _ = _ from ih).trans ?_
    rw [List.drop_eq_getElem_cons (show i < (List.range c.toNat).length by rw [List.length_range]; omega), List.map_cons, List.getElem_range, List.append_assoc]; rfl
theorem impl_all_partsO (d : Nat) (ih : ∀ t l, Ok_Ty_Type t → vT d t = true → inB l → l.length ≤ 1048576 → impl_Type_isElement t.f_Kind t.f_Size t.f_Signed t.f_Big t.f_Names t.f_Nums t.f_Members t.f_Base t.f_Count (toB l) = some (eT d t l)) (P : List (Ty_Type × List Int)) (hP : P.length ≤ 1048576) (h : ∀ p ∈ P, Ok_Ty_Type p.1 ∧ vT d p.1 = true ∧ inB p.2 ∧ p.2.length ≤ 1048576) :
    slices_ContainsFunc_simpl_part_impl_part_d_Type_isElement_1 (P.map fun p => (p.1, toB p.2)) = some (!P.all fun p => eT d p.1 p.2) := by
  rw [slices_ContainsFunc_simpl_part_impl_part_d_Type_isElement_1_eq, slices_IndexFunc_simpl_part_impl_part_d_Type_isElement_1_eq]
  have e : (P.all fun p => eT d p.1 p.2) = !(P.map fun p => (p.1, toB p.2)).any fun q => !eT d q.1 (ofB q.2) := by
    rw [List.any_map, not_any_all]
    refine all_congr_mem (fun p hp => ?_)
    show _ = !!eT d p.1 (ofB (toB p.2))
    rw [ofB_toB (h p hp).2.2.1, Bool.not_not]
  rw [e, Bool.not_not]
  refine find_any (find_loop (P.map fun p => (p.1, toB p.2)) (fun q => !eT d q.1 (ofB q.2)) (fun i => slices_IndexFunc_simpl_part_impl_part_d_Type_isElement_1_l2 (P.map fun p => (p.1, toB p.2)) ((P.map fun p => (p.1, toB p.2)).length : Int) i) (by rw [slices_IndexFunc_simpl_part_impl_part_d_Type_isElement_1_l2_eq, sif_f (by omega)]) (fun i q hq hi => ?_))
  rw [List.length_map] at hi
  obtain ⟨p, hp, rfl⟩ := List.mem_map.1 (List.mem_of_getElem? hq)
  have hh := h p hp
  rw [slices_IndexFunc_simpl_part_impl_part_d_Type_isElement_1_l2_eq, sif_t (by rw [List.length_map]; omega), idx_some hq, sbind_some, impl_Type_isElement_1_eq]
  show sbind (sbind (impl_Type_isElement p.1.f_Kind p.1.f_Size p.1.f_Signed p.1.f_Big p.1.f_Names p.1.f_Nums p.1.f_Members p.1.f_Base p.1.f_Count (toB p.2)) _) _ = sif (!eT d p.1 (ofB (toB p.2))) _ _
  rw [ih _ _ hh.1 hh.2.1 hh.2.2.1 hh.2.2.2, sbind_some, sbind_some, ofB_toB hh.2.2.1, wi64_add1 (by omega)]
/-! eltE -/
theorem impl_elt_some : ∀ (d : Nat) (t : Ty_Type) (l : List Int), Ok_Ty_Type t → vT d t = true → inB l → l.length ≤ 1048576 → impl_Type_isElement t.f_Kind t.f_Size t.f_Signed t.f_Big t.f_Names t.f_Nums t.f_Members t.f_Base t.f_Count (toB l) = some (eT d t l)
  | 0, _, _, _, h, _, _ => by cases h
  | d + 1, t, l, hok, h, hl, hn => by
    obtain ⟨l1, l2, l3, l4, k1, k2⟩ := ok_lens hok
    rw [impl_Type_isElement_eq, impl_size_some h, sbind_some, toB_size, eT_succ]
    by_cases hs : (l.length : Int) = szT t
    · rw [sif_neg (by rw [bne_eq_false_iff_eq]; exact hs), kbeq hs, Bool.true_and]
      have none_ : slices_ContainsFunc_simpl_part_impl_part_d_Type_isElement_1 [] = some false := by
        rw [slices_ContainsFunc_simpl_part_impl_part_d_Type_isElement_1_eq, slices_IndexFunc_simpl_part_impl_part_d_Type_isElement_1_eq, slices_IndexFunc_simpl_part_impl_part_d_Type_isElement_1_l2_eq]; rfl
      rcases vT_kinds h with ⟨hk, h1⟩ | ⟨hk, h1⟩ | ⟨hk, x, hx, h1⟩ | ⟨hk, h1, h2, h3⟩ | ⟨hk, h1, x, hx, h2, h3⟩ | ⟨hk, h1⟩
      · rw [kbne (show t.f_Kind ≠ 2 by omega), kbne (show t.f_Kind ≠ 3 by omega), kbne (show t.f_Kind ≠ 4 by omega), sif_false, sif_false, sif_false, impl_Type_parts_eq, kbne (show t.f_Kind ≠ 4 by omega), kbne (show t.f_Kind ≠ 5 by omega), sif_false, sif_false, sbind_some, none_, sbind_some, if_neg (by omega), if_neg (by omega), if_neg (by omega), if_neg (by omega)]; rfl
      · rw [if_pos hk, kbeq hk, sif_true, impl_trimmed_some l hl hn, sbind_some, impl_has0_some _ (tz_in hl), sbind_some]
      · rw [if_neg (by omega), if_pos hk, kbne (show t.f_Kind ≠ 2 by omega), kbeq hk, sif_false, sif_true, hx]
        have hi := enM_base h1
        have hM := enM_all h1
        have hnum : impl_Type_number t.f_Kind t.f_Size t.f_Signed t.f_Big t.f_Names t.f_Nums t.f_Members [x] t.f_Count (toB l) = some (sgn x.f_Size x.f_Signed (leN (ordL x.f_Big l))) := by
          rw [impl_Type_number_eq, kbeq hk, sif_true]
          show sbind (impl_Type_number x.f_Kind x.f_Size x.f_Signed x.f_Big x.f_Names x.f_Nums x.f_Members x.f_Base x.f_Count (toB l)) _ = _
          rw [impl_num_some _ _ _ _ _ _ _ _ _ (by omega) l hl hi.2 (by rw [hs, szT_k3 hk hx]), sbind_some]
        rw [hnum, sbind_some, impl_hasI_some _ _ (by omega), any_swap, sbind_some]
        rfl
      · have hs2 : (l.length : Int) = t.f_Size := by rw [hs, szT_o (by omega) (by omega)]
        have g := impl_gaps_loop d t.f_Members h2.2 t.f_Size (by omega) t.f_Members 0 0 l rfl (by omega) (by omega) h3 hs2 hl
        have p := impl_parts_loop d l t.f_Members h2.2 t.f_Size (by omega) hs2 t.f_Members 0 0 [] rfl (by omega) (by omega) h3 (by simp)
        have cg := clr_gaps (vT d) (fun t h => (vT_size h).1) t.f_Size t.f_Members 0 l (by omega) h3 hs2
        have cm := cpM_all h3
        have q : slices_ContainsFunc_simpl_part_impl_part_d_Type_isElement_1 (t.f_Members.map (partM l)) = some (!t.f_Members.all fun m => eT d m.2.2 (sl l m.2.1.toNat (m.2.1 + szT m.2.2).toNat)) := by
          have := impl_all_partsO d (fun t l hok hv hb hn => impl_elt_some d t l hok hv hb hn) (t.f_Members.map fun m => (m.2.2, sl l m.2.1.toNat (m.2.1 + szT m.2.2).toNat)) (by rw [List.length_map]; omega) (fun p hp => by
            obtain ⟨m, hm, rfl⟩ := List.mem_map.1 hp
            refine ⟨k1 m hm, cm m hm, sl_in hl _ _, ?_⟩
            show (sl l _ _).length ≤ _
            unfold sl
            rw [List.length_drop, List.length_take]; omega)
          rw [List.map_map, List.all_map] at this
          exact this
        rw [if_neg (by omega), if_neg (by omega), if_pos hk, kbne (show t.f_Kind ≠ 2 by omega), kbne (show t.f_Kind ≠ 3 by omega), kbeq hk, sif_false, sif_false, sif_true, impl_Type_gapsOk_eq, ofB_toB hl, show impl_Type_gapsOk_l3 t.f_Members (t.f_Members.length : Int) 0 l = _ from g, sbind_some, impl_Type_parts_eq, kbeq hk, sif_true, show impl_Type_parts_l5 (toB l) t.f_Members (t.f_Members.length : Int) 0 [] = _ from p, sbind_some, List.nil_append, q, sbind_some, Bool.not_not, cg]
        show sif (!(zB (l.take 0) && _)) _ _ = _
        rw [List.take_zero]
        show sif (!(true && _)) _ _ = _
        rw [Bool.true_and, sif_not, sif_bool]
      · have hs2 : (l.length : Int) = t.f_Count * szT x := by rw [hs, szT_k5 hk hx]
        have hz := vT_size h2
        have p := impl_parts_arr l x t.f_Kind t.f_Size t.f_Signed t.f_Big t.f_Names t.f_Nums t.f_Members t.f_Base t.f_Count hx hz h1 hs2 t.f_Count.toNat 0 [] (by omega) (by simp)
        have hokx := k2 x (by rw [hx]; simp)
        have q : slices_ContainsFunc_simpl_part_impl_part_d_Type_isElement_1 ((List.range t.f_Count.toNat).map fun i => (x, toB (sl l (i * (szT x).toNat) ((i + 1) * (szT x).toNat)))) = some (!arE (eT d) t.f_Count l [x]) := by
          have := impl_all_partsO d (fun t l hok hv hb hn => impl_elt_some d t l hok hv hb hn) ((List.range t.f_Count.toNat).map fun i => (x, sl l (i * (szT x).toNat) ((i + 1) * (szT x).toNat))) (by rw [List.length_map, List.length_range]; omega) (fun p hp => by
            obtain ⟨m, hm, rfl⟩ := List.mem_map.1 hp
            refine ⟨hokx, h2, sl_in hl _ _, ?_⟩
            show (sl l _ _).length ≤ _
            unfold sl
            rw [List.length_drop, List.length_take]; omega)
          rw [List.map_map, List.all_map] at this
          exact this
        rw [if_neg (by omega), if_neg (by omega), if_neg (by omega), if_pos hk, kbne (show t.f_Kind ≠ 2 by omega), kbne (show t.f_Kind ≠ 3 by omega), kbne (show t.f_Kind ≠ 4 by omega), sif_false, sif_false, sif_false, impl_Type_parts_eq, kbne (show t.f_Kind ≠ 4 by omega), kbeq hk, sif_false, sif_true]
        have hi : idx t.f_Base 0 = some x := by rw [hx]; rfl
        rw [hi, sbind_some, impl_size_some h2, sbind_some, show impl_Type_parts_l12 (toB l) (szT x) t.f_Count 0 t.f_Kind t.f_Size t.f_Signed t.f_Big t.f_Names t.f_Nums t.f_Members t.f_Base t.f_Count [] = _ from p, sbind_some, List.nil_append, List.drop_zero, q, sbind_some, Bool.not_not, hx]
      · rw [kbne (show t.f_Kind ≠ 2 by omega), kbne (show t.f_Kind ≠ 3 by omega), kbne (show t.f_Kind ≠ 4 by omega), sif_false, sif_false, sif_false, impl_Type_parts_eq, kbne (show t.f_Kind ≠ 4 by omega), kbne (show t.f_Kind ≠ 5 by omega), sif_false, sif_false, sbind_some, none_, sbind_some, if_neg (by omega), if_neg (by omega), if_neg (by omega), if_neg (by omega)]; rfl
    · rw [sif_pos (by rw [bne_iff_ne]; exact hs), kbne hs, Bool.false_and]
/-! dimL -/
/-! the dimensions of an array -/
def prodF : Int → List Int → Int
  | n, [] => n
  | n, d :: r => prodF (n * d) r
def capN : Nat → Int
  | 0 => 1
  | 1 => 40
  | 2 => 1600
  | _ => 64000
theorem prod_step {i : Nat} (hi : i < 3) {n d : Int} (hn : 0 ≤ n) (hn' : n ≤ capN i) (hd : 0 ≤ d) (hd' : d ≤ 40) : wi64 (n * d) = n * d ∧ 0 ≤ n * d ∧ n * d ≤ capN (i + 1) := by
  have h1 : 0 ≤ n * d := Int.mul_nonneg hn hd
  have h2 : n * d ≤ n * 40 := Int.mul_le_mul_of_nonneg_left hd' hn
  have h3 : n * d ≤ capN (i + 1) ∧ capN (i + 1) ≤ 64000 := by
    rcases (by omega : i = 0 ∨ i = 1 ∨ i = 2) with rfl | rfl | rfl <;> simp only [capN] at hn' ⊢ <;> omega
  exact ⟨wi64_id (by omega) (by omega), h1, h3.1⟩
def dimsM (D : List Int) : Bool := decide ((D.length : Int) ≤ 3) && (D.all (fun n => inr n 0 40) && decide (prodF 1 D ≤ 600))
theorem dims_in {D : List Int} (h : dimsM D = true) : D.length ≤ 3 ∧ (∀ d ∈ D, 0 ≤ d ∧ d ≤ 40) ∧ prodF 1 D ≤ 600 := by
  unfold dimsM at h
  simp only [Bool.and_eq_true, decide_eq_true_eq, List.all_eq_true, inr_iff] at h
  exact ⟨by omega, h.2.1, h.2.2⟩
theorem all_inr_mem {D : List Int} (h : D.all (fun n => inr n 0 40) = true) : ∀ d ∈ D, 0 ≤ d ∧ d ≤ 40 := fun d hd => inr_iff.1 (List.all_eq_true.1 h d hd)
theorem spec_dims_some (D : List Int) : spec_l05Dims D = some (dimsM D) := by
  rw [spec_l05Dims_eq]
  by_cases hl : (D.length : Int) > 3
  · rw [sif_t hl, dimsM, decide_eq_false (by omega), Bool.false_and]
  · rw [sif_f hl]
    have k := loop_up D (fun i (n : Int) => spec_l05Dims_l5 D n (i : Int)) (fun l n => some (l.all (fun n => inr n 0 40) && decide (prodF n l ≤ 600))) (fun i n => 0 ≤ n ∧ n ≤ capN i)
      (fun n _ => by rw [spec_l05Dims_l5_eq, sif_f (by omega)]; rfl)
      (fun i x r n hx hi hd hI ih => by
        rw [spec_l05Dims_l5_eq, sif_t (by omega), idx_some hx, sbind_some, spec_l00In_some, sbind_some, sbind_some, wi64_add1 (by omega), List.all_cons]
        cases hr : inr x 0 40 with
        | false => rw [Bool.not_false, sif_true, Bool.false_and, Bool.false_and]
        | true =>
          obtain ⟨e1, e2, e3⟩ := prod_step (by omega) hI.1 hI.2 (inr_iff.1 hr).1 (inr_iff.1 hr).2
          rw [Bool.not_true, sif_false, e1, ih _ ⟨e2, e3⟩, Bool.true_and]; rfl) 0 1 (by omega) ⟨by decide, by decide⟩
    rw [show spec_l05Dims_l5 D 1 0 = _ from k, List.drop_zero, dimsM, decide_eq_true (show (D.length : Int) ≤ 3 by omega), Bool.true_and]
theorem impl_product_some (D : List Int) (hl : D.length ≤ 3) (hd : ∀ d ∈ D, 0 ≤ d ∧ d ≤ 40) : impl_product D = some (prodF 1 D) := by
  rw [impl_product_eq]
  have k := loop_up D (fun i (n : Int) => impl_product_l3 n D (D.length : Int) (i : Int)) (fun l n => some (prodF n l)) (fun i n => 0 ≤ n ∧ n ≤ capN i)
    (fun n _ => by rw [impl_product_l3_eq, sif_f (by omega)]; rfl)
    (fun i x r n hx hi hdr hI ih => by
      have hx' := hd x (mem_of_at hx)
      obtain ⟨e1, e2, e3⟩ := prod_step (by omega) hI.1 hI.2 hx'.1 hx'.2
      rw [impl_product_l3_eq, sif_t (by omega), idx_some hx, sbind_some, wi64_add1 (by omega), e1, ih _ ⟨e2, e3⟩]; rfl) 0 1 (by omega) ⟨by decide, by decide⟩
  rw [show impl_product_l3 1 D (D.length : Int) 0 = _ from k, List.drop_zero]
theorem impl_allW_some (l : List Int) (lo hi : Int) (hn : l.length ≤ 1048576) : impl_allWithin l lo hi = some (l.all (fun n => inr n lo hi)) := by
  have k1 : slices_ContainsFunc_sint64_int64_d_allWithin_1 l lo hi = some (l.any (fun n => !inr n lo hi)) := by
    rw [slices_ContainsFunc_sint64_int64_d_allWithin_1_eq, slices_IndexFunc_sint64_int64_d_allWithin_1_eq]
    refine find_any (find_loop l _ (fun i => slices_IndexFunc_sint64_int64_d_allWithin_1_l2 l (l.length : Int) i lo hi) (by rw [slices_IndexFunc_sint64_int64_d_allWithin_1_l2_eq, sif_f (by omega)]) (fun i x hx hi => ?_))
    rw [slices_IndexFunc_sint64_int64_d_allWithin_1_l2_eq, sif_t (by omega), idx_some hx, sbind_some, impl_allWithin_1_eq, impl_within_some, sbind_some, sbind_some, wi64_add1 (by omega)]
  rw [impl_allWithin_eq, k1, sbind_some, any_not_all l (fun n => inr n lo hi) _ (fun _ _ => rfl), Bool.not_not]
theorem impl_dims_some (D : List Int) : impl_ValidDims D = some (dimsM D) := by
  rw [impl_ValidDims_eq, dimsM]
  by_cases hl : (D.length : Int) ≤ 3
  · rw [sif_t hl, impl_allW_some D 0 40 (by omega), sbind_some, decide_eq_true hl, Bool.true_and]
    cases ha : D.all (fun n => inr n 0 40) with
    | false => rw [sif_false, Bool.false_and]
    | true => rw [sif_true, impl_product_some D (by omega) (all_inr_mem ha), sbind_some, Bool.true_and]
  · rw [sif_f hl, decide_eq_false hl, Bool.false_and]
/-! arrL -/
/-! its data, element by element -/
/-! arrays -/
/-! szArr -/
/-! idxL -/
/-! coordinates, the linear index -/
def insL (l : List (Int × Int)) : Bool := l.all (fun p => inr p.1 0 (p.2 - 1))
def insM (D A : List Int) : Bool := ((A.length : Int) == (D.length : Int)) && insL (A.zip D)
theorem zip_at {A D : List Int} {i : Nat} {x : Int × Int} (h : (A.zip D)[i]? = some x) : A[i]? = some x.1 ∧ D[i]? = some x.2 := by
  rw [List.getElem?_zip_eq_some] at h
  exact h
theorem spec_inside_some (D A : List Int) (hD : ∀ d ∈ D, 0 ≤ d ∧ d ≤ 40) (hA : A.length ≤ 1048576) : spec_l05Inside D A = some (insM D A) := by
  rw [spec_l05Inside_eq, insM]
  by_cases hl : (A.length : Int) = (D.length : Int)
  · rw [sif_neg (by rw [bne_eq_false_iff_eq]; exact hl), kbeq hl, Bool.true_and]
    have hz : (A.zip D).length = A.length := by rw [List.length_zip]; omega
    have k := all_loop (A.zip D) (fun p => inr p.1 0 (p.2 - 1)) (fun i => spec_l05Inside_l4 D A (i : Int)) false (fun i x hx hi => by
      obtain ⟨h1, h2⟩ := zip_at hx
      have h3 := hD _ (mem_of_at h2)
      rw [spec_l05Inside_l4_eq, sif_t (by omega), idx_some h1, sbind_some, idx_some h2, sbind_some, wi64_id (by omega) (by omega), spec_l00In_some, sbind_some, sif_not, wi64_add1 (by omega)])
    rw [show spec_l05Inside_l4 D A 0 = _ from k, hz, spec_l05Inside_l4_eq, sif_f (by omega), sif_bool, Bool.and_true]; rfl
  · rw [sif_pos (by rw [bne_iff_ne]; exact hl), kbne hl, Bool.false_and]
theorem impl_inside_some (D A : List Int) (hD : ∀ d ∈ D, 0 ≤ d ∧ d ≤ 40) (hA : A.length ≤ 1048576) : impl_inDims D A = some (insM D A) := by
  rw [impl_inDims_eq, insM]
  by_cases hl : (A.length : Int) = (D.length : Int)
  · rw [sif_neg (by rw [bne_eq_false_iff_eq]; exact hl), kbeq hl, Bool.true_and]
    have hz : (A.zip D).length = A.length := by rw [List.length_zip]; omega
    have k := all_loop (A.zip D) (fun p => inr p.1 0 (p.2 - 1)) (fun i => impl_inDims_l4 D A (A.length : Int) (i : Int)) false (fun i x hx hi => by
      obtain ⟨h1, h2⟩ := zip_at hx
      have h3 := hD _ (mem_of_at h2)
      rw [impl_inDims_l4_eq, sif_t (by omega), idx_some h1, sbind_some, idx_some h2, sbind_some, wi64_id (by omega) (by omega), impl_within_some, sbind_some, sif_not, wi64_add1 (by omega)])
    rw [show impl_inDims_l4 D A (A.length : Int) 0 = _ from k, hz, impl_inDims_l4_eq, sif_f (by omega), sif_bool, Bool.and_true]; rfl
  · rw [sif_pos (by rw [bne_iff_ne]; exact hl), kbne hl, Bool.false_and]
/-! selL -/
/-! selections -/
theorem zipQ_at {α β : Type} {A : List α} {D : List β} {i : Nat} {x : α × β} (h : (A.zip D)[i]? = some x) : A[i]? = some x.1 ∧ D[i]? = some x.2 := by
  rw [List.getElem?_zip_eq_some] at h; exact h
def qz (a b c d : List Int) : List (Int × Int × Int × Int) := a.zip (b.zip (c.zip d))
def enQ (x : Int × Int × Int × Int) : Int := x.1 + (x.2.2.1 - 1) * x.2.1 + x.2.2.2
def slQ (x : Int × Int × Int × Int) : Bool := inr x.1 0 40 && (inr x.2.2.1 1 40 && (inr x.2.2.2 1 40 && (inr x.2.1 x.2.2.2 40 && decide (enQ x ≤ 40))))
def slabM (a b c d : List Int) : Bool := decide ((a.length : Int) ≤ 3) && (((b.length : Int) == (a.length : Int)) && (((c.length : Int) == (a.length : Int)) && (((d.length : Int) == (a.length : Int)) && (qz a b c d).all slQ)))
def plainM (a b c d : List Int) : Bool := ((a.length : Int) == 0) && (((b.length : Int) == 0) && (((c.length : Int) == 0) && ((d.length : Int) == 0)))
def ptQ (n : Nat) (p : List Int) : Bool := ((p.length : Int) == (n : Int)) && p.all (fun x => inr x 0 39)
def ptsM : List (List Int) → Bool
  | [] => false
  | q :: r => decide (((q :: r).length : Int) ≤ 24) && (decide ((q.length : Int) ≤ 3) && (q :: r).all (ptQ q.length))
def formM (k : Int) (a b c d : List Int) (P : List (List Int)) : Bool :=
  if k = 1 ∨ k = 2 then plainM a b c d && ((P.length : Int) == 0) else if k = 3 then slabM a b c d && ((P.length : Int) == 0) else if k = 4 then plainM a b c d && ptsM P else false
def fitM (D : List Int) (k : Int) (a b c d : List Int) (P : List (List Int)) : Bool :=
  if k = 3 then ((a.length : Int) == (D.length : Int)) && ((qz a b c d).zip D).all (fun x => decide (enQ x.1 ≤ x.2)) else if k = 4 then P.all (insM D) else true
theorem qz_at {a b c d : List Int} {i : Nat} {x : Int × Int × Int × Int} (h : (qz a b c d)[i]? = some x) : a[i]? = some x.1 ∧ b[i]? = some x.2.1 ∧ c[i]? = some x.2.2.1 ∧ d[i]? = some x.2.2.2 := by
  unfold qz at h
  obtain ⟨h1, h2⟩ := zipQ_at (A := a) (D := b.zip (c.zip d)) h
  obtain ⟨h3, h4⟩ := zipQ_at h2
  obtain ⟨h5, h6⟩ := zipQ_at h4
  exact ⟨h1, h3, h5, h6⟩
theorem qz_len {a b c d : List Int} (hb : b.length = a.length) (hc : c.length = a.length) (hd : d.length = a.length) : (qz a b c d).length = a.length := by
  unfold qz; rw [List.length_zip, List.length_zip, List.length_zip]; omega
theorem end_rng {x1 x2 x3 x4 : Int} (h1 : 0 ≤ x1 ∧ x1 ≤ 40) (h2 : 1 ≤ x2 ∧ x2 ≤ 40) (h3 : 0 ≤ x3 ∧ x3 ≤ 40) (h4 : 1 ≤ x4 ∧ x4 ≤ 40) : 0 ≤ (x2 - 1) * x3 ∧ (x2 - 1) * x3 ≤ 1600 ∧ wi64 ((wi64 (x1 + (wi64 ((wi64 (x2 - 1)) * x3)))) + x4) = x1 + (x2 - 1) * x3 + x4 := by
  have e1 : 0 ≤ (x2 - 1) * x3 := Int.mul_nonneg (by omega) h3.1
  have e2 : (x2 - 1) * x3 ≤ 40 * 40 := Int.mul_le_mul (by omega) h3.2 h3.1 (by decide)
  refine ⟨e1, by omega, ?_⟩
  rw [wi64_id (n := x2 - 1) (by omega) (by omega), wi64_id (n := (x2 - 1) * x3) (by omega) (by omega), wi64_id (n := x1 + _) (by omega) (by omega), wi64_id (by omega) (by omega)]
theorem slQ_in {x : Int × Int × Int × Int} (h : slQ x = true) : (0 ≤ x.1 ∧ x.1 ≤ 40) ∧ (1 ≤ x.2.2.1 ∧ x.2.2.1 ≤ 40) ∧ (1 ≤ x.2.2.2 ∧ x.2.2.2 ≤ 40) ∧ (x.2.2.2 ≤ x.2.1 ∧ x.2.1 ≤ 40) ∧ enQ x ≤ 40 := by
  unfold slQ at h
  simp only [Bool.and_eq_true, inr_iff, decide_eq_true_eq] at h
  exact h
theorem spec_end_some {k : Int} {a b c d : List Int} {P : List (List Int)} {i : Nat} {x : Int × Int × Int × Int} (h : (qz a b c d)[i]? = some x) (h1 : 0 ≤ x.1 ∧ x.1 ≤ 40) (h2 : 1 ≤ x.2.2.1 ∧ x.2.2.1 ≤ 40) (h3 : 0 ≤ x.2.1 ∧ x.2.1 ≤ 40) (h4 : 1 ≤ x.2.2.2 ∧ x.2.2.2 ≤ 40) : spec_l06End k a b c d P (i : Int) = some (enQ x) := by
  obtain ⟨g1, g2, g3, g4⟩ := qz_at h
  rw [spec_l06End_eq, idx_some g1, sbind_some, idx_some g3, sbind_some, idx_some g2, sbind_some, idx_some g4, sbind_some, (end_rng h1 h2 h3 h4).2.2]; rfl
theorem impl_end_some {k : Int} {a b c d : List Int} {P : List (List Int)} {i : Nat} {x : Int × Int × Int × Int} (h : (qz a b c d)[i]? = some x) (h1 : 0 ≤ x.1 ∧ x.1 ≤ 40) (h2 : 1 ≤ x.2.2.1 ∧ x.2.2.1 ≤ 40) (h3 : 0 ≤ x.2.1 ∧ x.2.1 ≤ 40) (h4 : 1 ≤ x.2.2.2 ∧ x.2.2.2 ≤ 40) : impl_Selection_end k a b c d P (i : Int) = some (enQ x) := by
  obtain ⟨g1, g2, g3, g4⟩ := qz_at h
  rw [impl_Selection_end_eq, idx_some g1, sbind_some, idx_some g3, sbind_some, idx_some g2, sbind_some, idx_some g4, sbind_some, (end_rng h1 h2 h3 h4).2.2]; rfl
theorem sif_f' {R : Type} {b : Bool} (h : b = false) (x y : Option R) : sif b x y = y := by rw [h]; rfl
theorem spec_slab_loop (k : Int) (a b c d : List Int) (P : List (List Int)) (hn : a.length ≤ 3) (hb : b.length = a.length) (hc : c.length = a.length) (hd : d.length = a.length) : spec_l06Slab_l5 (a.length : Int) 0 k a b c d P = some ((qz a b c d).all slQ) := by
  have hz := qz_len hb hc hd
  have kk := all_loop (qz a b c d) slQ (fun i => spec_l06Slab_l5 (a.length : Int) (i : Int) k a b c d P) false (fun i x hx hi => by
    obtain ⟨g1, g2, g3, g4⟩ := qz_at hx
    rw [spec_l06Slab_l5_eq, sif_t (by omega), idx_some g1, sbind_some, spec_l00In_some, sbind_some, idx_some g3, sbind_some, spec_l00In_some, sbind_some, idx_some g4, sbind_some, spec_l00In_some, sbind_some, idx_some g2, sbind_some, sbind_some, spec_l00In_some, sbind_some, wi64_add1 (by omega), slQ]
    cases c1 : inr x.1 0 40 with
    | false => rfl
    | true =>
      cases c2 : inr x.2.2.1 1 40 with
      | false => rfl
      | true =>
        cases c3 : inr x.2.2.2 1 40 with
        | false => rfl
        | true =>
          cases c4 : inr x.2.1 x.2.2.2 40 with
          | false => rfl
          | true =>
            rw [inr_iff] at c1 c2 c3 c4
            rw [spec_end_some hx c1 c2 (by omega) c3, sbind_some, Bool.not_true, sif_false, sif_false, sif_false, sif_false, Bool.true_and, Bool.true_and, Bool.true_and, Bool.true_and]
            by_cases c5 : enQ x > 40
            · rw [sif_t c5, decide_eq_false (by omega), sif_false]
            · rw [sif_f c5, decide_eq_true (show enQ x ≤ 40 by omega), sif_true])
  rw [show spec_l06Slab_l5 (a.length : Int) 0 k a b c d P = _ from kk, hz, spec_l06Slab_l5_eq, sif_f (by omega), sif_bool, Bool.and_true]
theorem impl_slab_loop (k : Int) (a b c d : List Int) (P : List (List Int)) (hn : a.length ≤ 3) (hb : b.length = a.length) (hc : c.length = a.length) (hd : d.length = a.length) : impl_Selection_slabFormed_l5 (a.length : Int) 0 k a b c d P = some ((qz a b c d).all slQ) := by
  have hz := qz_len hb hc hd
  have kk := all_loop (qz a b c d) slQ (fun i => impl_Selection_slabFormed_l5 (a.length : Int) (i : Int) k a b c d P) false (fun i x hx hi => by
    obtain ⟨g1, g2, g3, g4⟩ := qz_at hx
    rw [impl_Selection_slabFormed_l5_eq, sif_t (by omega), idx_some g1, sbind_some, impl_within_some, sbind_some, idx_some g3, sbind_some, impl_within_some, sbind_some, idx_some g4, sbind_some, impl_within_some, sbind_some, idx_some g2, sbind_some, sbind_some, impl_within_some, sbind_some, wi64_add1 (by omega), slQ]
    cases c1 : inr x.1 0 40 with
    | false => rfl
    | true =>
      cases c2 : inr x.2.2.1 1 40 with
      | false => rfl
      | true =>
        cases c3 : inr x.2.2.2 1 40 with
        | false => rfl
        | true =>
          cases c4 : inr x.2.1 x.2.2.2 40 with
          | false => rfl
          | true =>
            rw [inr_iff] at c1 c2 c3 c4
            rw [impl_end_some hx c1 c2 (by omega) c3, sbind_some, Bool.not_true, sif_false, sif_false, sif_false, sif_false, Bool.true_and, Bool.true_and, Bool.true_and, Bool.true_and]
            by_cases c5 : enQ x > 40
            · rw [sif_t c5, decide_eq_false (by omega), sif_false]
            · rw [sif_f c5, decide_eq_true (show enQ x ≤ 40 by omega), sif_true])
  rw [show impl_Selection_slabFormed_l5 (a.length : Int) 0 k a b c d P = _ from kk, hz, impl_Selection_slabFormed_l5_eq, sif_f (by omega), sif_bool, Bool.and_true]
theorem spec_slab_some (k : Int) (a b c d : List Int) (P : List (List Int)) : spec_l06Slab k a b c d P = some (slabM a b c d && ((P.length : Int) == 0)) := by
  rw [spec_l06Slab_eq, slabM]
  by_cases h1 : (a.length : Int) > 3
  · rw [sif_t h1, decide_eq_false (by omega), Bool.false_and, Bool.false_and]
  rw [sif_f h1, decide_eq_true (show (a.length : Int) ≤ 3 by omega), Bool.true_and]
  by_cases h2 : (b.length : Int) = (a.length : Int)
  rotate_left
  · rw [sif_pos (by rw [bne_iff_ne]; exact h2), kbne h2, Bool.false_and, Bool.false_and]
  rw [sif_f' (by rw [bne_eq_false_iff_eq]; exact h2), kbeq h2, Bool.true_and]
  by_cases h3 : (c.length : Int) = (a.length : Int)
  rotate_left
  · rw [sif_pos (by rw [bne_iff_ne]; exact h3), kbne h3, Bool.false_and, Bool.false_and]
  rw [sif_f' (by rw [bne_eq_false_iff_eq]; exact h3), kbeq h3, Bool.true_and]
  by_cases h4 : (d.length : Int) = (a.length : Int)
  rotate_left
  · rw [sif_pos (by rw [bne_iff_ne]; exact h4), kbne h4, Bool.false_and, Bool.false_and]
  rw [sif_f' (by rw [bne_eq_false_iff_eq]; exact h4), kbeq h4, Bool.true_and]
  by_cases h5 : (P.length : Int) > 0
  · rw [sif_t h5, kbne (by omega), Bool.and_false]
  rw [sif_f h5, kbeq (by omega), Bool.and_true, spec_slab_loop k a b c d P (by omega) (by omega) (by omega) (by omega)]
theorem impl_slab_some (k : Int) (a b c d : List Int) (P : List (List Int)) : impl_Selection_slabFormed k a b c d P = some (slabM a b c d) := by
  rw [impl_Selection_slabFormed_eq, slabM]
  by_cases h1 : (a.length : Int) > 3
  · rw [sif_t h1, decide_eq_false (by omega), Bool.false_and]
  rw [sif_f h1, decide_eq_true (show (a.length : Int) ≤ 3 by omega), Bool.true_and]
  by_cases h2 : (b.length : Int) = (a.length : Int)
  rotate_left
  · rw [sif_pos (by rw [bne_iff_ne]; exact h2), kbne h2, Bool.false_and]
  rw [sif_f' (by rw [bne_eq_false_iff_eq]; exact h2), kbeq h2, Bool.true_and]
  by_cases h3 : (c.length : Int) = (a.length : Int)
  rotate_left
  · rw [sif_pos (by rw [bne_iff_ne]; exact h3), kbne h3, Bool.false_and]
  rw [sif_f' (by rw [bne_eq_false_iff_eq]; exact h3), kbeq h3, Bool.true_and]
  by_cases h4 : (d.length : Int) = (a.length : Int)
  rotate_left
  · rw [sif_pos (by rw [bne_iff_ne]; exact h4), kbne h4, Bool.false_and]
  rw [sif_f' (by rw [bne_eq_false_iff_eq]; exact h4), kbeq h4, Bool.true_and, impl_slab_loop k a b c d P (by omega) (by omega) (by omega) (by omega)]
theorem spec_pts_in (P : List (List Int)) (hP : P.length ≤ 24) (i : Nat) (p : List Int) (hp : P[i]? = some p) (hl : p.length ≤ 3) : spec_l06Points_l9 P (i : Int) 0 = sif (p.all (fun x => inr x 0 39)) (spec_l06Points_l4 P ((i + 1 : Nat) : Int)) (some false) := by
  have hlt := (List.getElem?_eq_some_iff.1 hp).1
  have kk := all_loop p (fun x => inr x 0 39) (fun j => spec_l06Points_l9 P (i : Int) (j : Int)) false (fun j x hx hj => by
    rw [spec_l06Points_l9_eq, idx_some hp, sbind_some, sif_t (by omega), sbind_some, idx_some hx, sbind_some, spec_l00In_some, sbind_some, wi64_add1 (by omega), sif_not])
  rw [show spec_l06Points_l9 P (i : Int) 0 = _ from kk, spec_l06Points_l9_eq, idx_some hp, sbind_some, sif_f (by omega), wi64_add1 (by omega)]
theorem spec_pts_some (P : List (List Int)) : spec_l06Points P = some (ptsM P) := by
  rw [spec_l06Points_eq, spec_l00In_some, sbind_some]
  cases P with
  | nil => rfl
  | cons q r =>
    rw [ptsM]
    by_cases h1 : ((q :: r).length : Int) ≤ 24
    rotate_left
    · rw [decide_eq_false h1, Bool.false_and, show inr ((q :: r).length : Int) 1 24 = false by rw [← Bool.not_eq_true, inr_iff]; omega]; rfl
    rw [decide_eq_true h1, Bool.true_and, show inr ((q :: r).length : Int) 1 24 = true by rw [inr_iff]; simp only [List.length_cons] at h1 ⊢; omega, Bool.not_true, sif_false]
    have h0 : idx (q :: r) 0 = some q := rfl
    have kk := all_loop (q :: r) (fun p => ((p.length : Int) == (q.length : Int)) && (decide ((p.length : Int) ≤ 3) && p.all (fun x => inr x 0 39))) (fun i => spec_l06Points_l4 (q :: r) (i : Int)) false (fun i p hp hi => by
      rw [spec_l06Points_l4_eq, sif_t (by omega), idx_some hp, sbind_some, h0, sbind_some, sbind_some]
      by_cases c1 : (p.length : Int) = (q.length : Int)
      rotate_left
      · rw [sif_pos (by rw [bne_iff_ne]; exact c1), kbne c1, Bool.false_and, sif_false]
      rw [sif_f' (by rw [bne_eq_false_iff_eq]; exact c1), kbeq c1, Bool.true_and]
      by_cases c2 : (p.length : Int) > 3
      · rw [sif_t c2, decide_eq_false (by omega), Bool.false_and, sif_false]
      rw [sif_f c2, decide_eq_true (show (p.length : Int) ≤ 3 by omega), Bool.true_and, spec_pts_in (q :: r) (by omega) i p hp (by omega)])
    rw [show spec_l06Points_l4 (q :: r) 0 = _ from kk, spec_l06Points_l4_eq, sif_f (by omega), sif_bool, Bool.and_true]
    congr 1
    by_cases c3 : (q.length : Int) ≤ 3
    · rw [decide_eq_true c3, Bool.true_and]
      refine all_congr_mem (fun p _ => ?_)
      rw [ptQ]
      by_cases c4 : (p.length : Int) = (q.length : Int)
      · rw [kbeq c4, decide_eq_true (by omega), Bool.true_and]
      · rw [kbne c4, Bool.false_and, Bool.false_and]
    · rw [decide_eq_false c3, Bool.false_and, List.all_cons, kbeq rfl, decide_eq_false c3, Bool.false_and, Bool.and_false, Bool.false_and]
theorem impl_pts_some (k : Int) (a b c d : List Int) (P : List (List Int)) (hP : ∀ p ∈ P, p.length ≤ 140737488351232) : impl_Selection_pointsFormed k a b c d P = some (ptsM P) := by
  rw [impl_Selection_pointsFormed_eq, impl_within_some, sbind_some]
  cases P with
  | nil => rfl
  | cons q r =>
    rw [ptsM]
    by_cases h1 : ((q :: r).length : Int) ≤ 24
    rotate_left
    · rw [decide_eq_false h1, Bool.false_and, show inr ((q :: r).length : Int) 1 24 = false by rw [← Bool.not_eq_true, inr_iff]; omega]; rfl
    rw [decide_eq_true h1, Bool.true_and, show inr ((q :: r).length : Int) 1 24 = true by rw [inr_iff]; simp only [List.length_cons] at h1 ⊢; omega, Bool.not_true, sif_false, show idx (q :: r) 0 = some q from rfl, sbind_some]
    by_cases c3 : (q.length : Int) ≤ 3
    rotate_left
    · rw [sif_f c3, decide_eq_false c3, Bool.false_and]
    rw [sif_t c3, decide_eq_true c3, Bool.true_and, slices_ContainsFunc_simpl_Point_impl_Point_d_Selection_pointsFormed_1_eq, slices_IndexFunc_simpl_Point_impl_Point_d_Selection_pointsFormed_1_eq]
    have kk := find_any (find_loop (q :: r) (fun p => !ptQ q.length p) (fun i => slices_IndexFunc_simpl_Point_impl_Point_d_Selection_pointsFormed_1_l2 (q :: r) ((q :: r).length : Int) i (q.length : Int)) (by rw [slices_IndexFunc_simpl_Point_impl_Point_d_Selection_pointsFormed_1_l2_eq, sif_f (by omega)]) (fun i p hp hi => by
      rw [slices_IndexFunc_simpl_Point_impl_Point_d_Selection_pointsFormed_1_l2_eq, sif_t (by omega), idx_some hp, sbind_some, impl_Selection_pointsFormed_1_eq, wi64_add1 (by omega), ptQ]
      by_cases c4 : (p.length : Int) = (q.length : Int)
      · rw [sif_f' (by rw [bne_eq_false_iff_eq]; exact c4), impl_allW_some p 0 39 (by omega), sbind_some, sbind_some, kbeq c4, Bool.true_and]
      · rw [sif_pos (by rw [bne_iff_ne]; exact c4), sbind_some, kbne c4, Bool.false_and, Bool.not_false]))
    rw [kk, sbind_some, not_any_all]
    congr 1
    exact all_congr_mem (fun p _ => by rw [Bool.not_not])
theorem spec_form_some (k : Int) (a b c d : List Int) (P : List (List Int)) : spec_l06Formed k a b c d P = some (formM k a b c d P) := by
  have pl : spec_l06Plain k a b c d P = some (plainM a b c d) := by rw [spec_l06Plain_eq, sif_bool, sif_bool, sif_bool]; rfl
  rw [spec_l06Formed_eq, pl, spec_slab_some, spec_pts_some, formM]
  simp only [sbind_some, sif_bool]
  by_cases k1 : k = 1
  · subst k1; rfl
  rw [kbne k1, sif_false]
  by_cases k2 : k = 2
  · subst k2; rfl
  rw [kbne k2, sif_false, if_neg (by omega)]
  by_cases k3 : k = 3
  · rw [kbeq k3, sif_true, if_pos k3]
  rw [kbne k3, sif_false, if_neg k3]
  by_cases k4 : k = 4
  · rw [kbeq k4, if_pos k4, Bool.true_and]
  · rw [kbne k4, if_neg k4, Bool.false_and]
theorem eqB_plain (k : Int) (a b c d : List Int) (P : List (List Int)) : eqB ((k, [], [], [], [], P) : SelK) (k, a, b, c, d, P) = plainM a b c d := by
  rw [Bool.eq_iff_iff, eqB_iff, plainM]
  simp only [Bool.and_eq_true, beq_iff_eq, Prod.mk.injEq, true_and, and_true]
  constructor
  · rintro ⟨rfl, rfl, rfl, rfl⟩; simp
  · rintro ⟨h1, h2, h3, h4⟩
    exact ⟨(List.length_eq_zero_iff.1 (by omega)).symm, (List.length_eq_zero_iff.1 (by omega)).symm, (List.length_eq_zero_iff.1 (by omega)).symm, (List.length_eq_zero_iff.1 (by omega)).symm⟩
theorem impl_form_some (k : Int) (a b c d : List Int) (P : List (List Int)) (h : selLen ((k, a, b, c, d, P) : SelK)) : impl_FormedSelection k a b c d P = some (formM k a b c d P) := by
  have hs := impl_sel_eqB ((k, [], [], [], [], P) : SelK) (k, a, b, c, d, P) ⟨by simp [LenOk], by simp [LenOk], by simp [LenOk], by simp [LenOk], h.2.2.2.2.1, h.2.2.2.2.2⟩
  dsimp only at hs
  rw [impl_FormedSelection_eq, hs, sbind_some, eqB_plain, impl_slab_some, impl_pts_some _ _ _ _ _ _ h.2.2.2.2.2, formM]
  simp only [sbind_some, sif_bool]
  by_cases k1 : k = 1
  · subst k1; rfl
  rw [kbne k1, sif_false]
  by_cases k2 : k = 2
  · subst k2; rfl
  rw [kbne k2, sif_false, if_neg (by omega)]
  by_cases k3 : k = 3
  · rw [kbeq k3, sif_true, if_pos k3, Bool.and_comm]
  rw [kbne k3, sif_false, if_neg k3]
  by_cases k4 : k = 4
  · rw [kbeq k4, if_pos k4, Bool.true_and]
  · rw [kbne k4, if_neg k4, Bool.false_and]
theorem form_slab {k : Int} {a b c d : List Int} {P : List (List Int)} (h : formM k a b c d P = true) (hk : k = 3) : a.length ≤ 3 ∧ b.length = a.length ∧ c.length = a.length ∧ d.length = a.length ∧ P = [] ∧ (qz a b c d).all slQ = true := by
  rw [formM, if_neg (by omega), if_pos hk, Bool.and_eq_true, slabM] at h
  simp only [Bool.and_eq_true, decide_eq_true_eq, beq_iff_eq] at h
  exact ⟨by omega, by omega, by omega, by omega, List.length_eq_zero_iff.1 (by omega), h.1.2.2.2.2⟩
theorem form_pts {k : Int} {a b c d : List Int} {P : List (List Int)} (h : formM k a b c d P = true) (hk : k = 4) : plainM a b c d = true ∧ ptsM P = true := by
  rwa [formM, if_neg (by omega), if_neg (by omega), if_pos hk, Bool.and_eq_true] at h
theorem pts_in {P : List (List Int)} (h : ptsM P = true) : ∃ q r, P = q :: r ∧ P.length ≤ 24 ∧ q.length ≤ 3 ∧ ∀ p ∈ P, p.length = q.length ∧ ∀ x ∈ p, 0 ≤ x ∧ x ≤ 39 := by
  cases P with
  | nil => cases h
  | cons q r =>
    rw [ptsM] at h
    simp only [Bool.and_eq_true, decide_eq_true_eq] at h
    refine ⟨q, r, rfl, by omega, by omega, fun p hp => ?_⟩
    have := List.all_eq_true.1 h.2.2 p hp
    rw [ptQ, Bool.and_eq_true, beq_iff_eq] at this
    exact ⟨by omega, fun x hx => inr_iff.1 (List.all_eq_true.1 this.2 x hx)⟩
theorem spec_fit_slab (D : List Int) (hD : D.length ≤ 3) (k : Int) (a b c d : List Int) (P : List (List Int)) (hb : b.length = a.length) (hc : c.length = a.length) (hd : d.length = a.length) (ha : a.length = D.length) (hq : (qz a b c d).all slQ = true) : spec_l06Valid_l8 D 0 k a b c d P = some (((qz a b c d).zip D).all (fun x => decide (enQ x.1 ≤ x.2))) := by
  have hz := qz_len hb hc hd
  have hz2 : ((qz a b c d).zip D).length = D.length := by rw [List.length_zip]; omega
  have kk := all_loop ((qz a b c d).zip D) (fun x => decide (enQ x.1 ≤ x.2)) (fun i => spec_l06Valid_l8 D (i : Int) k a b c d P) false (fun i x hx hi => by
    obtain ⟨g1, g2⟩ := zipQ_at hx
    have hx1 := slQ_in (List.all_eq_true.1 hq _ (mem_of_at g1))
    rw [spec_l06Valid_l8_eq, sif_t (by omega), spec_end_some g1 hx1.1 hx1.2.1 (by omega) hx1.2.2.1, sbind_some, idx_some g2, sbind_some, wi64_add1 (by omega)]
    by_cases c5 : enQ x.1 > x.2
    · rw [sif_t c5, decide_eq_false (by omega), sif_false]
    · rw [sif_f c5, decide_eq_true (show enQ x.1 ≤ x.2 by omega), sif_true])
  rw [show spec_l06Valid_l8 D 0 k a b c d P = _ from kk, hz2, spec_l06Valid_l8_eq, sif_f (by omega), sif_bool, Bool.and_true]
theorem impl_fit_slab (D : List Int) (hD : D.length ≤ 3) (k : Int) (a b c d : List Int) (P : List (List Int)) (hb : b.length = a.length) (hc : c.length = a.length) (hd : d.length = a.length) (ha : a.length = D.length) (hq : (qz a b c d).all slQ = true) : impl_Selection_fits_l6 D (D.length : Int) 0 k a b c d P = some (((qz a b c d).zip D).all (fun x => decide (enQ x.1 ≤ x.2))) := by
  have hz := qz_len hb hc hd
  have hz2 : ((qz a b c d).zip D).length = D.length := by rw [List.length_zip]; omega
  have kk := all_loop ((qz a b c d).zip D) (fun x => decide (enQ x.1 ≤ x.2)) (fun i => impl_Selection_fits_l6 D (D.length : Int) (i : Int) k a b c d P) false (fun i x hx hi => by
    obtain ⟨g1, g2⟩ := zipQ_at hx
    have hx1 := slQ_in (List.all_eq_true.1 hq _ (mem_of_at g1))
    rw [impl_Selection_fits_l6_eq, sif_t (by omega), idx_some g2, sbind_some, impl_end_some g1 hx1.1 hx1.2.1 (by omega) hx1.2.2.1, sbind_some, wi64_add1 (by omega)]
    by_cases c5 : enQ x.1 > x.2
    · rw [sif_t c5, decide_eq_false (by omega), sif_false]
    · rw [sif_f c5, decide_eq_true (show enQ x.1 ≤ x.2 by omega), sif_true])
  rw [show impl_Selection_fits_l6 D (D.length : Int) 0 k a b c d P = _ from kk, hz2, impl_Selection_fits_l6_eq, sif_f (by omega), sif_bool, Bool.and_true]
theorem spec_fit_pts (D : List Int) (hD : ∀ d ∈ D, 0 ≤ d ∧ d ≤ 40) (k : Int) (a b c d : List Int) (P : List (List Int)) (hP : P.length ≤ 24) (hp : ∀ p ∈ P, p.length ≤ 3) : spec_l06Valid_l14 D 0 k a b c d P = some (P.all (insM D)) := by
  have kk := all_loop P (insM D) (fun i => spec_l06Valid_l14 D (i : Int) k a b c d P) false (fun i x hx hi => by
    have := hp x (mem_of_at hx)
    rw [spec_l06Valid_l14_eq, sif_t (by omega), idx_some hx, sbind_some, spec_inside_some D x hD (by omega), sbind_some, sif_not, wi64_add1 (by omega)])
  rw [show spec_l06Valid_l14 D 0 k a b c d P = _ from kk, spec_l06Valid_l14_eq, sif_f (by omega), sif_bool, Bool.and_true]
theorem impl_fit_pts (D : List Int) (hD : ∀ d ∈ D, 0 ≤ d ∧ d ≤ 40) (P : List (List Int)) (hP : P.length ≤ 24) (hp : ∀ p ∈ P, p.length ≤ 3) : slices_ContainsFunc_simpl_Point_impl_Point_d_Selection_fits_1 P D = some (!P.all (insM D)) := by
  rw [slices_ContainsFunc_simpl_Point_impl_Point_d_Selection_fits_1_eq, slices_IndexFunc_simpl_Point_impl_Point_d_Selection_fits_1_eq]
  have kk := find_any (find_loop P (fun p => !insM D p) (fun i => slices_IndexFunc_simpl_Point_impl_Point_d_Selection_fits_1_l2 P (P.length : Int) i D) (by rw [slices_IndexFunc_simpl_Point_impl_Point_d_Selection_fits_1_l2_eq, sif_f (by omega)]) (fun i p hx hi => by
    have := hp p (mem_of_at hx)
    rw [slices_IndexFunc_simpl_Point_impl_Point_d_Selection_fits_1_l2_eq, sif_t (by omega), idx_some hx, sbind_some, impl_Selection_fits_1_eq, impl_inside_some D p hD (by omega), sbind_some, sbind_some, wi64_add1 (by omega)]))
  rw [kk]
  congr 1
  rw [← Bool.not_not (P.any fun p => !insM D p), not_any_all]
  congr 1
  exact all_congr_mem (fun p _ => by rw [Bool.not_not])
theorem spec_sel_some (D : List Int) (k : Int) (a b c d : List Int) (P : List (List Int)) : spec_l06Valid D k a b c d P = some (dimsM D && (formM k a b c d P && fitM D k a b c d P)) := by
  rw [spec_l06Valid_eq, spec_dims_some, sbind_some, spec_form_some, sbind_some]
  cases hd : dimsM D with
  | false => rfl
  | true =>
    obtain ⟨d1, d2, d3⟩ := dims_in hd
    cases hf : formM k a b c d P with
    | false => rfl
    | true =>
      rw [Bool.not_true, sif_false, sif_false, Bool.true_and, Bool.true_and, fitM]
      by_cases k3 : k = 3
      · obtain ⟨f1, f2, f3, f4, f5, f6⟩ := form_slab hf k3
        rw [kbeq k3, sif_true, if_pos k3]
        by_cases hl : (a.length : Int) = (D.length : Int)
        · rw [sif_f' (by rw [bne_eq_false_iff_eq]; exact hl), kbeq hl, Bool.true_and, spec_fit_slab D d1 k a b c d P f2 f3 f4 (by omega) f6]
        · rw [sif_pos (by rw [bne_iff_ne]; exact hl), kbne hl, Bool.false_and]
      rw [kbne k3, sif_false, if_neg k3]
      by_cases k4 : k = 4
      · obtain ⟨_, h4⟩ := form_pts hf k4
        obtain ⟨q, r, h5, h6, h7, h8⟩ := pts_in h4
        rw [kbeq k4, sif_true, if_pos k4, spec_fit_pts D d2 k a b c d P h6 (fun p hp => by rw [(h8 p hp).1]; exact h7)]
      · rw [kbne k4, sif_false, if_neg k4]
theorem impl_fits_some (D : List Int) (hd : dimsM D = true) (k : Int) (a b c d : List Int) (P : List (List Int)) (hf : formM k a b c d P = true) : impl_Selection_fits k a b c d P D = some (fitM D k a b c d P) := by
  obtain ⟨d1, d2, d3⟩ := dims_in hd
  rw [impl_Selection_fits_eq, fitM]
  by_cases k3 : k = 3
  · obtain ⟨f1, f2, f3, f4, f5, f6⟩ := form_slab hf k3
    rw [kbeq k3, sif_true, if_pos k3]
    by_cases hl : (a.length : Int) = (D.length : Int)
    · rw [sif_f' (by rw [bne_eq_false_iff_eq]; exact hl), kbeq hl, Bool.true_and, impl_fit_slab D d1 k a b c d P f2 f3 f4 (by omega) f6]
    · rw [sif_pos (by rw [bne_iff_ne]; exact hl), kbne hl, Bool.false_and]
  rw [kbne k3, sif_false, if_neg k3]
  by_cases k4 : k = 4
  · obtain ⟨_, h4⟩ := form_pts hf k4
    obtain ⟨q, r, h5, h6, h7, h8⟩ := pts_in h4
    rw [kbeq k4, sif_true, if_pos k4, impl_fit_pts D d2 P h6 (fun p hp => by rw [(h8 p hp).1]; exact h7), sbind_some, Bool.not_not]
  · rw [kbne k4, sif_false, if_neg k4]
/-! putL -/
theorem leB_one (n : Int) : leB n 1 = [wu8 n] := by rw [leB_succ]; simp [leB]
theorem spec_l02Byte_some (n : Int) : spec_l02Byte n = some (toB (leB n 1)) := by rw [spec_l02Byte_eq, leB_one]
theorem spec_l02Put_some (n : Int) (k : Nat) (hk : k ≤ 8) : spec_l02Put n (k : Int) false = some (toB (leB n k)) := by
  rw [spec_l02Put_eq]
  have := loop_to k (fun i out => spec_l02Put_l3 n (k : Int) false out (i : Int)) (fun _ _ => some (toB (leB n k))) (fun i out => out = toB (leB n i)) (fun out ho => by
      rw [spec_l02Put_l3_eq, sif_f (by omega), ho])
    (fun i out hi ho ih => by
      rw [spec_l02Put_l3_eq, sif_t (by omega), wi64_id (n := 8 * (i : Int)) (by omega) (by omega), wu64_id (by omega) (by omega), sif_f (by omega), spec_l02Byte_some, sbind_some, sif_false, ho, sif_pos (joinsT (by simp [leB_len]; omega)), wi64_add1 (by omega)]
      refine ih _ ?_
      rw [toB_append, leB_one, wu8_and, show min (8 * (i : Int)).toNat 64 = 8 * i by omega]
      congr 1
      unfold leB
      rw [List.range_succ, List.map_append]; rfl) 0 (bs []) (by omega) rfl
  simpa using this
theorem impl_putBytes_some (n : Int) (k : Nat) (hk : k ≤ 8) : impl_putBytes n (k : Int) = some (toB (leB n k)) := by
  rw [impl_putBytes_eq, sif_pos (by rw [le3_ok (by omega) (by omega)]; exact room_ok (by omega)), Int.toNat_natCast, List.length_replicate]
  have := loop_to k (fun i out => impl_putBytes_l3 n (k : Int) (i : Int) out) (fun _ _ => some (toB (leB n k))) (fun i out => out = leB n i ++ List.replicate (k - i) 0) (fun out ho => by
      rw [impl_putBytes_l3_eq, sif_f (by omega), ho]; simp)
    (fun i out hi ho ih => by
      have hlen : out.length = k := by rw [ho, List.length_append, leB_len, List.length_replicate]; omega
      rw [impl_putBytes_l3_eq, sif_t (by omega), wi64_id (n := 8 * (i : Int)) (by omega) (by omega), sif_f (by omega), sif_pos (lt3_ok (by omega) (by omega)), wi64_add1 (by omega), Int.toNat_natCast]
      refine ih _ ?_
      rw [ho, show min (8 * (i : Int)).toNat 64 = 8 * i by omega]
      have e1 : k - i = (k - (i + 1)) + 1 := by omega
      rw [e1, List.replicate_succ, List.set_append_right _ _ (by rw [leB_len]; exact Nat.le_refl _), leB_len, Nat.sub_self, List.set_cons_zero]
      unfold leB
      rw [List.range_succ, List.map_append, List.append_assoc]; rfl) 0 (List.replicate k 0) (by omega) (by simp [leB])
  simpa using this
/-! encL -/
/-! the binary form of a type -/
theorem loop_cat {α R : Type} (l : List α) (F : Nat → ByteArray → Option R) (f : α → List Int) (K P B : Nat) (hB : P + l.length * K ≤ B) (hK : ∀ x ∈ l, (f x).length ≤ K) (G : List Int → Option R) (hend : ∀ o, o.length ≤ B → F l.length (toB o) = G o)
    (hs : ∀ i x o, l[i]? = some x → i < l.length → (f x).length ≤ K → o.length + K ≤ B → F i (toB o) = F (i + 1) (toB (o ++ f x))) (o : List Int) (ho : o.length ≤ P) : F 0 (toB o) = G (o ++ l.flatMap f) := by
  have k := loop_up l (fun i (o : List Int) => F i (toB o)) (fun l o => G (o ++ l.flatMap f)) (fun i o => o.length ≤ P + i * K)
    (fun o hI => by rw [hend o (by omega)]; simp)
    (fun i x r o hx hi hd hI ih => by
      have h1 : (i + 1) * K ≤ l.length * K := Nat.mul_le_mul_right K hi
      rw [Nat.add_mul, Nat.one_mul] at h1
      have h2 := hK x (mem_of_at hx)
      rw [hs i x o hx hi h2 (by omega), ih _ (by rw [List.length_append, Nat.add_mul, Nat.one_mul]; omega)]
      simp) 0 o (by omega) (by omega)
  exact k
theorem flat_len {α : Type} (f : α → List Int) (K : Nat) : ∀ (l : List α), (∀ x ∈ l, (f x).length ≤ K) → (l.flatMap f).length ≤ l.length * K
  | [], _ => by simp
  | x :: r, h => by
    have ih := flat_len f K r (fun y hy => h y (by simp [hy]))
    have hx := h x (by simp)
    rw [List.flatMap_cons, List.length_append, List.length_cons, Nat.add_mul, Nat.one_mul]
    omega
def flI (t : Ty_Type) : Int := (if t.f_Signed = true then 1 else 0) + 2 * (if t.f_Big = true then 1 else 0)
def ecI (t : Ty_Type) : List Int := (leB t.f_Kind 1 ++ leB t.f_Size 1) ++ leB (flI t) 1
def wN (p : ByteArray × Int) : List Int := (leB (p.1.size : Int) 1 ++ ofB p.1) ++ leB p.2 8
def wM (e : Ty_Type → List Int) (m : ByteArray × Int × Ty_Type) : List Int := ((leB (m.1.size : Int) 1 ++ ofB m.1) ++ leB m.2.1 1) ++ e m.2.2
def enI : List Ty_Type → List Int
  | [x] => ecI x
  | _ => []
def arI (e : Ty_Type → List Int) : List Ty_Type → List Int
  | [x] => e x
  | _ => []
def ecT : Nat → Ty_Type → List Int
  | 0, _ => []
  | d + 1, t => if t.f_Kind = 1 then ecI t else if t.f_Kind = 2 then leB t.f_Kind 1 ++ leB t.f_Size 1
      else if t.f_Kind = 3 then (leB t.f_Kind 1 ++ (enI t.f_Base ++ leB (t.f_Names.length : Int) 1)) ++ (t.f_Names.zip t.f_Nums).flatMap wN
      else if t.f_Kind = 4 then (leB t.f_Kind 1 ++ (leB t.f_Size 1 ++ leB (t.f_Members.length : Int) 1)) ++ t.f_Members.flatMap (wM (ecT d))
      else if t.f_Kind = 5 then leB t.f_Kind 1 ++ (leB t.f_Count 1 ++ arI (ecT d) t.f_Base) else leB t.f_Kind 1
theorem ecT_succ (d : Nat) (t : Ty_Type) : ecT (d + 1) t = if t.f_Kind = 1 then ecI t else if t.f_Kind = 2 then leB t.f_Kind 1 ++ leB t.f_Size 1
      else if t.f_Kind = 3 then (leB t.f_Kind 1 ++ (enI t.f_Base ++ leB (t.f_Names.length : Int) 1)) ++ (t.f_Names.zip t.f_Nums).flatMap wN
      else if t.f_Kind = 4 then (leB t.f_Kind 1 ++ (leB t.f_Size 1 ++ leB (t.f_Members.length : Int) 1)) ++ t.f_Members.flatMap (wM (ecT d))
      else if t.f_Kind = 5 then leB t.f_Kind 1 ++ (leB t.f_Count 1 ++ arI (ecT d) t.f_Base) else leB t.f_Kind 1 := rfl
theorem ecI_len (t : Ty_Type) : (ecI t).length = 3 := by simp [ecI, leB_len]
/-- how long a form may get -/
def cT : Nat → Nat
  | 0 => 4503599627370496
  | d + 1 => 5 * cT d + 4503599627370496
theorem cT_le {d : Nat} (h : d ≤ 3) : cT d ≤ 720575940379279360 := by
  rcases (by omega : d = 0 ∨ d = 1 ∨ d = 2 ∨ d = 3) with rfl | rfl | rfl | rfl <;> decide
theorem cT_ge (d : Nat) : 4503599627370496 ≤ cT d := by
  cases d with
  | zero => exact Nat.le_refl _
  | succ d => rw [cT]; omega
theorem ok_names {t : Ty_Type} (h : Ok_Ty_Type t) : (∀ s ∈ t.f_Names, s.size ≤ 140737488351232) ∧ ∀ m ∈ t.f_Members, m.1.size ≤ 140737488351232 := by
  have h := Ok_Ty_Type.out h
  exact ⟨h.2.2.2.2.1.2.2, fun m hm => (h.2.2.2.2.2.2.1.2.2 m hm).1⟩
theorem zipS_at {α β : Type} {A : List α} {D : List β} {i : Nat} {x : α × β} (h : (A.zip D)[i]? = some x) : A[i]? = some x.1 ∧ D[i]? = some x.2 := by
  rw [List.getElem?_zip_eq_some] at h
  exact h
theorem wN_len {N : List ByteArray} {M : List Int} (h : ∀ s ∈ N, s.size ≤ 140737488351232) : ∀ p ∈ N.zip M, (wN p).length ≤ 140737488351300 := fun p hp => by
  obtain ⟨i, hi⟩ := List.mem_iff_getElem?.1 hp
  have := h _ (mem_of_at (zipS_at hi).1)
  unfold wN
  rw [List.length_append, List.length_append, leB_len, leB_len, ofB_len]; omega
theorem enM_nums {N : List ByteArray} {M : List Int} {x : Ty_Type} (h : enM N M x = true) : N.length = M.length ∧ M.length ≤ 6 := by
  unfold enM at h
  simp only [Bool.and_eq_true, inr_iff, beq_iff_eq] at h
  exact ⟨by omega, by omega⟩
theorem ecT_len : ∀ (d : Nat) (t : Ty_Type), Ok_Ty_Type t → vT d t = true → (ecT d t).length ≤ cT d
  | 0, _, _, h => by cases h
  | d + 1, t, hok, h => by
    obtain ⟨l1, l2, l3, l4, k1, k2⟩ := ok_lens hok
    obtain ⟨n1, n2⟩ := ok_names hok
    have hg := cT_ge d
    rw [ecT_succ, cT]
    rcases vT_kinds h with ⟨hk, h1⟩ | ⟨hk, h1⟩ | ⟨hk, x, hx, h1⟩ | ⟨hk, h1, h2, h3⟩ | ⟨hk, h1, x, hx, h2, h3⟩ | ⟨hk, h1⟩
    · rw [if_pos hk, ecI_len]; omega
    · rw [if_neg (by omega), if_pos hk, List.length_append, leB_len, leB_len]; omega
    · obtain ⟨e1, e2⟩ := enM_nums h1
      have hz : (t.f_Names.zip t.f_Nums).length ≤ 6 := by rw [List.length_zip]; omega
      have hf := flat_len wN _ _ (wN_len (M := t.f_Nums) n1)
      have hm := Nat.mul_le_mul_right 140737488351300 hz
      rw [if_neg (by omega), if_neg (by omega), if_pos hk, List.length_append, List.length_append, List.length_append, leB_len, leB_len, hx]
      show 1 + ((ecI x).length + 1) + _ ≤ _
      rw [ecI_len]; omega
    · have hf := flat_len (wM (ecT d)) (140737488351300 + cT d) t.f_Members (fun m hm => by
        have a := n2 m hm
        have b := ecT_len d m.2.2 (k1 m hm) (cpM_all h3 m hm)
        unfold wM
        rw [List.length_append, List.length_append, List.length_append, leB_len, leB_len, ofB_len]; omega)
      have hm := Nat.mul_le_mul_right (140737488351300 + cT d) h2.2
      rw [if_neg (by omega), if_neg (by omega), if_neg (by omega), if_pos hk, List.length_append, List.length_append, List.length_append, leB_len, leB_len, leB_len]
      omega
    · have b := ecT_len d x (k2 x (by rw [hx]; simp)) h2
      rw [if_neg (by omega), if_neg (by omega), if_neg (by omega), if_neg (by omega), if_pos hk, List.length_append, List.length_append, leB_len, leB_len, hx]
      show 1 + (1 + (ecT d x).length) ≤ _
      omega
    · rw [if_neg (by omega), if_neg (by omega), if_neg (by omega), if_neg (by omega), if_neg (by omega), leB_len]; omega
theorem spec_ec_int (x : Ty_Type) (hk : x.f_Kind = 1) : spec_l02Encode x.f_Kind x.f_Size x.f_Signed x.f_Big x.f_Names x.f_Nums x.f_Members x.f_Base x.f_Count = some (toB (ecI x)) := by
  rw [spec_l02Encode_eq, spec_l02Byte_some, sbind_some, kbeq hk, sif_true, spec_l02Byte_some, sbind_some, sbind_some, sbind_some, sbind_some, sif_pos (joinsT (by simp [leB_len])), toB_append]
  simp only [spec_l02Byte_some, sbind_some]
  have j : ∀ n : Int, joins (toB (leB x.f_Kind 1 ++ leB x.f_Size 1)) (toB (leB n 1)) = true := fun n => joinsT (by simp [leB_len])
  simp only [j, sif_true, toB_append]
  unfold ecI flI
  cases x.f_Signed <;> cases x.f_Big <;> rfl
theorem impl_ec_int (x : Ty_Type) (hk : x.f_Kind = 1) : impl_Type_encode x.f_Kind x.f_Size x.f_Signed x.f_Big x.f_Names x.f_Nums x.f_Members x.f_Base x.f_Count = some (toB (ecI x)) := by
  have p1 := fun n : Int => impl_putBytes_some n 1 (by omega)
  rw [impl_Type_encode_eq, show impl_putBytes x.f_Kind 1 = _ from p1 _, sbind_some, kbeq hk, sif_true, show impl_putBytes x.f_Size 1 = _ from p1 _, sbind_some, sif_pos (joinsT (by simp [leB_len])), toB_append, impl_truth_eq, impl_truth_eq]
  have q : ∀ n : Int, impl_putBytes n 1 = some (toB (leB n 1)) := p1
  have j : ∀ n : Int, joins (toB (leB x.f_Kind 1 ++ leB x.f_Size 1)) (toB (leB n 1)) = true := fun n => joinsT (by simp [leB_len])
  unfold ecI flI
  cases x.f_Signed <;> cases x.f_Big <;> simp only [sif_true, sif_false, sbind_some, q, j, toB_append] <;> rfl
theorem impl_putName_some (s : ByteArray) (h : s.size ≤ 140737488351232) : impl_putName s = some (toB (leB (s.size : Int) 1 ++ ofB s)) := by
  have p1 : impl_putBytes (s.size : Int) 1 = _ := impl_putBytes_some (s.size : Int) 1 (by omega)
  have e : toB (ofB s) = s := toB_ofB s
  rw [impl_putName_eq, p1, sbind_some, ← toB_append, e, sif_pos (joins_ok (by rw [toB_size, leB_len]; omega))]
theorem spec_enc_some : ∀ (d : Nat) (t : Ty_Type), d ≤ 3 → Ok_Ty_Type t → vT d t = true → spec_l02Encode t.f_Kind t.f_Size t.f_Signed t.f_Big t.f_Names t.f_Nums t.f_Members t.f_Base t.f_Count = some (toB (ecT d t))
  | 0, _, _, _, h => by cases h
  | d + 1, t, hd, hok, h => by
    obtain ⟨l1, l2, l3, l4, k1, k2⟩ := ok_lens hok
    obtain ⟨n1, n2⟩ := ok_names hok
    have hc := cT_le (d := d) (by omega)
    rw [ecT_succ]
    rcases vT_kinds h with ⟨hk, h1⟩ | ⟨hk, h1⟩ | ⟨hk, x, hx, h1⟩ | ⟨hk, h1, h2, h3⟩ | ⟨hk, h1, x, hx, h2, h3⟩ | ⟨hk, h1⟩
    · rw [if_pos hk, spec_ec_int t hk]
    · rw [if_neg (by omega), if_pos hk, spec_l02Encode_eq, spec_l02Byte_some, sbind_some, kbne (show t.f_Kind ≠ 1 by omega), kbeq hk, sif_false, sif_true, spec_l02Byte_some, sbind_some, sif_pos (joinsT (by simp [leB_len])), toB_append]
    · obtain ⟨e1, e2⟩ := enM_nums h1
      have hi := enM_base h1
      have hz : (t.f_Names.zip t.f_Nums).length = t.f_Names.length := by rw [List.length_zip]; omega
      have lp := loop_cat (t.f_Names.zip t.f_Nums) (fun i out => spec_l02Encode_l15 out (i : Int) t.f_Kind t.f_Size t.f_Signed t.f_Big t.f_Names t.f_Nums t.f_Members t.f_Base t.f_Count) wN 140737488351300 100 2305843009213693952 (by omega) (wN_len n1) (fun o => some (toB o))
        (fun o ho => by rw [hz, spec_l02Encode_l15_eq, sif_f (by omega)])
        (fun i p o hp hi hK hoB => by
          obtain ⟨g1, g2⟩ := zipS_at hp
          have hs := n1 _ (mem_of_at g1)
          have e : toB (ofB p.1) = p.1 := toB_ofB p.1
          have pt : spec_l02Put p.2 8 false = some (toB (leB p.2 8)) := spec_l02Put_some p.2 8 (by omega)
          have j1 : joins (toB (leB (p.1.size : Int) 1)) p.1 = true := joins_ok (by rw [toB_size, leB_len]; omega)
          have a1 : toB (leB (p.1.size : Int) 1) ++ p.1 = toB (leB (p.1.size : Int) 1 ++ ofB p.1) := by rw [← toB_append, e]
          rw [spec_l02Encode_l15_eq, sif_t (by omega), idx_some g1, sbind_some, spec_l02Byte_some, sbind_some, sbind_some, sif_pos j1, idx_some g2, sbind_some, pt, sbind_some, a1, sif_pos (joinsT (by rw [List.length_append, leB_len, leB_len, ofB_len]; omega)), toB_append, show (leB (p.1.size : Int) 1 ++ ofB p.1) ++ leB p.2 8 = wN p from rfl, sif_pos (joinsT (by omega)), toB_append, wi64_add1 (by omega)])
        (leB t.f_Kind 1 ++ (ecI x ++ leB (t.f_Names.length : Int) 1)) (by simp [leB_len, ecI_len])
      rw [if_neg (by omega), if_neg (by omega), if_pos hk, spec_l02Encode_eq, spec_l02Byte_some, sbind_some, kbne (show t.f_Kind ≠ 1 by omega), kbne (show t.f_Kind ≠ 2 by omega), kbeq hk, sif_false, sif_false, sif_true]
      have hb0 : idx t.f_Base 0 = some x := by rw [hx]; rfl
      rw [hb0, sbind_some, spec_ec_int x hi.1, sbind_some, spec_l02Byte_some, sbind_some, sif_pos (joinsT (by simp [leB_len, ecI_len])), toB_append, sif_pos (joinsT (by simp [leB_len, ecI_len])), toB_append]
      rw [hx] at lp ⊢
      exact lp
    · have lp := loop_cat t.f_Members (fun i out => spec_l02Encode_l21 out (i : Int) t.f_Kind t.f_Size t.f_Signed t.f_Big t.f_Names t.f_Nums t.f_Members t.f_Base t.f_Count) (wM (ecT d)) (140737488351300 + cT d) 100 4611686018427387000 (by have := Nat.mul_le_mul_right (140737488351300 + cT d) h2.2; omega)
        (fun m hm => by
          have a := n2 m hm
          have b := ecT_len d m.2.2 (k1 m hm) (cpM_all h3 m hm)
          unfold wM
          rw [List.length_append, List.length_append, List.length_append, leB_len, leB_len, ofB_len]; omega) (fun o => some (toB o))
        (fun o ho => by rw [spec_l02Encode_l21_eq, sif_f (by omega)])
        (fun i m o hm hi hK hoB => by
          have hmm := mem_of_at hm
          have hs := n2 m hmm
          have hb := ecT_len d m.2.2 (k1 m hmm) (cpM_all h3 m hmm)
          have e : toB (ofB m.1) = m.1 := toB_ofB m.1
          have ih := spec_enc_some d m.2.2 (by omega) (k1 m hmm) (cpM_all h3 m hmm)
          have j1 : joins (toB (leB (m.1.size : Int) 1)) m.1 = true := joins_ok (by rw [toB_size, leB_len]; omega)
          have a1 : toB (leB (m.1.size : Int) 1) ++ m.1 = toB (leB (m.1.size : Int) 1 ++ ofB m.1) := by rw [← toB_append, e]
          rw [spec_l02Encode_l21_eq, sif_t (by omega), idx_some hm, sbind_some, spec_l02Byte_some, sbind_some, sif_pos j1, spec_l02Byte_some, sbind_some, a1, sif_pos (joinsT (by rw [List.length_append, leB_len, leB_len, ofB_len]; omega)), toB_append, ih, sbind_some, sif_pos (joinsT (by rw [List.length_append, List.length_append, leB_len, leB_len, ofB_len]; omega)), toB_append,
            show ((leB (m.1.size : Int) 1 ++ ofB m.1) ++ leB m.2.1 1) ++ ecT d m.2.2 = wM (ecT d) m from rfl, sif_pos (joinsT (by omega)), toB_append, wi64_add1 (by omega)])
        (leB t.f_Kind 1 ++ (leB t.f_Size 1 ++ leB (t.f_Members.length : Int) 1)) (by simp [leB_len])
      rw [if_neg (by omega), if_neg (by omega), if_neg (by omega), if_pos hk, spec_l02Encode_eq, spec_l02Byte_some, sbind_some, kbne (show t.f_Kind ≠ 1 by omega), kbne (show t.f_Kind ≠ 2 by omega), kbne (show t.f_Kind ≠ 3 by omega), kbeq hk, sif_false, sif_false, sif_false, sif_true, spec_l02Byte_some, sbind_some, spec_l02Byte_some, sbind_some, sif_pos (joinsT (by simp [leB_len])), toB_append, sif_pos (joinsT (by simp [leB_len])), toB_append]
      exact lp
    · have hokx := k2 x (by rw [hx]; simp)
      have hb := ecT_len d x hokx h2
      have ih := spec_enc_some d x (by omega) hokx h2
      have hb0 : idx t.f_Base 0 = some x := by rw [hx]; rfl
      rw [if_neg (by omega), if_neg (by omega), if_neg (by omega), if_neg (by omega), if_pos hk, spec_l02Encode_eq, spec_l02Byte_some, sbind_some, kbne (show t.f_Kind ≠ 1 by omega), kbne (show t.f_Kind ≠ 2 by omega), kbne (show t.f_Kind ≠ 3 by omega), kbne (show t.f_Kind ≠ 4 by omega), kbeq hk, sif_false, sif_false, sif_false, sif_false, sif_true, spec_l02Byte_some, sbind_some, hb0, sbind_some, ih, sbind_some, sif_pos (joinsT (by rw [leB_len]; omega)), toB_append, sif_pos (joinsT (by rw [List.length_append, leB_len, leB_len]; omega)), toB_append, hx]
      rfl
    · rw [if_neg (by omega), if_neg (by omega), if_neg (by omega), if_neg (by omega), if_neg (by omega), spec_l02Encode_eq, spec_l02Byte_some, sbind_some, kbne (show t.f_Kind ≠ 1 by omega), kbne (show t.f_Kind ≠ 2 by omega), kbne (show t.f_Kind ≠ 3 by omega), kbne (show t.f_Kind ≠ 4 by omega), kbne (show t.f_Kind ≠ 5 by omega), sif_false, sif_false, sif_false, sif_false, sif_false]
theorem impl_enc_some : ∀ (d : Nat) (t : Ty_Type), d ≤ 3 → Ok_Ty_Type t → vT d t = true → impl_Type_encode t.f_Kind t.f_Size t.f_Signed t.f_Big t.f_Names t.f_Nums t.f_Members t.f_Base t.f_Count = some (toB (ecT d t))
  | 0, _, _, _, h => by cases h
  | d + 1, t, hd, hok, h => by
    obtain ⟨l1, l2, l3, l4, k1, k2⟩ := ok_lens hok
    obtain ⟨n1, n2⟩ := ok_names hok
    have hc := cT_le (d := d) (by omega)
    have p1 : ∀ n : Int, impl_putBytes n 1 = some (toB (leB n 1)) := fun n => impl_putBytes_some n 1 (by omega)
    have p8 : ∀ n : Int, impl_putBytes n 8 = some (toB (leB n 8)) := fun n => impl_putBytes_some n 8 (by omega)
    rw [ecT_succ]
    rcases vT_kinds h with ⟨hk, h1⟩ | ⟨hk, h1⟩ | ⟨hk, x, hx, h1⟩ | ⟨hk, h1, h2, h3⟩ | ⟨hk, h1, x, hx, h2, h3⟩ | ⟨hk, h1⟩
    · rw [if_pos hk, impl_ec_int t hk]
    · rw [if_neg (by omega), if_pos hk, impl_Type_encode_eq, p1, sbind_some, kbne (show t.f_Kind ≠ 1 by omega), kbeq hk, sif_false, sif_true, p1, sbind_some, sif_pos (joinsT (by simp [leB_len])), toB_append]
    · obtain ⟨e1, e2⟩ := enM_nums h1
      have hi := enM_base h1
      have hz : (t.f_Names.zip t.f_Nums).length = t.f_Names.length := by rw [List.length_zip]; omega
      have lp := loop_cat (t.f_Names.zip t.f_Nums) (fun i out => impl_Type_encode_l10 out t.f_Names (t.f_Names.length : Int) (i : Int) t.f_Kind t.f_Size t.f_Signed t.f_Big t.f_Names t.f_Nums t.f_Members t.f_Base t.f_Count) wN 140737488351300 100 2305843009213693952 (by omega) (wN_len n1) (fun o => some (toB o))
        (fun o ho => by rw [hz, impl_Type_encode_l10_eq, sif_f (by omega)])
        (fun i p o hp hi hK hoB => by
          obtain ⟨g1, g2⟩ := zipS_at hp
          have hs := n1 _ (mem_of_at g1)
          rw [impl_Type_encode_l10_eq, sif_t (by omega), idx_some g1, sbind_some, impl_putName_some _ hs, sbind_some, idx_some g2, sbind_some, p8, sbind_some, sif_pos (joinsT (by rw [List.length_append, leB_len, leB_len, ofB_len]; omega)), toB_append, show (leB (p.1.size : Int) 1 ++ ofB p.1) ++ leB p.2 8 = wN p from rfl, sif_pos (joinsT (by omega)), toB_append, wi64_add1 (by omega)])
        (leB t.f_Kind 1 ++ (ecI x ++ leB (t.f_Names.length : Int) 1)) (by simp [leB_len, ecI_len])
      rw [if_neg (by omega), if_neg (by omega), if_pos hk, impl_Type_encode_eq, p1, sbind_some, kbne (show t.f_Kind ≠ 1 by omega), kbne (show t.f_Kind ≠ 2 by omega), kbeq hk, sif_false, sif_false, sif_true]
      have hb0 : idx t.f_Base 0 = some x := by rw [hx]; rfl
      rw [hb0, sbind_some, impl_ec_int x hi.1, sbind_some, p1, sbind_some, sif_pos (joinsT (by simp [leB_len, ecI_len])), toB_append, sif_pos (joinsT (by simp [leB_len, ecI_len])), toB_append]
      rw [hx] at lp ⊢
      exact lp
    · have lp := loop_cat t.f_Members (fun i out => impl_Type_encode_l17 out t.f_Members (t.f_Members.length : Int) (i : Int)) (wM (ecT d)) (140737488351300 + cT d) 100 4611686018427387000 (by have := Nat.mul_le_mul_right (140737488351300 + cT d) h2.2; omega)
        (fun m hm => by
          have a := n2 m hm
          have b := ecT_len d m.2.2 (k1 m hm) (cpM_all h3 m hm)
          unfold wM
          rw [List.length_append, List.length_append, List.length_append, leB_len, leB_len, ofB_len]; omega) (fun o => some (toB o))
        (fun o ho => by rw [impl_Type_encode_l17_eq, sif_f (by omega)])
        (fun i m o hm hi hK hoB => by
          have hmm := mem_of_at hm
          have hs := n2 m hmm
          have hb := ecT_len d m.2.2 (k1 m hmm) (cpM_all h3 m hmm)
          have ih := impl_enc_some d m.2.2 (by omega) (k1 m hmm) (cpM_all h3 m hmm)
          rw [impl_Type_encode_l17_eq, sif_t (by omega), idx_some hm, sbind_some, impl_putName_some _ hs, sbind_some, p1, sbind_some, sif_pos (joinsT (by rw [List.length_append, leB_len, leB_len, ofB_len]; omega)), toB_append, ih, sbind_some, sif_pos (joinsT (by rw [List.length_append, List.length_append, leB_len, leB_len, ofB_len]; omega)), toB_append,
            show ((leB (m.1.size : Int) 1 ++ ofB m.1) ++ leB m.2.1 1) ++ ecT d m.2.2 = wM (ecT d) m from rfl, sif_pos (joinsT (by omega)), toB_append, wi64_add1 (by omega)])
        (leB t.f_Kind 1 ++ (leB t.f_Size 1 ++ leB (t.f_Members.length : Int) 1)) (by simp [leB_len])
      rw [if_neg (by omega), if_neg (by omega), if_neg (by omega), if_pos hk, impl_Type_encode_eq, p1, sbind_some, kbne (show t.f_Kind ≠ 1 by omega), kbne (show t.f_Kind ≠ 2 by omega), kbne (show t.f_Kind ≠ 3 by omega), kbeq hk, sif_false, sif_false, sif_false, sif_true, p1, sbind_some, p1, sbind_some, sif_pos (joinsT (by simp [leB_len])), toB_append, sif_pos (joinsT (by simp [leB_len])), toB_append]
      exact lp
    · have hokx := k2 x (by rw [hx]; simp)
      have hb := ecT_len d x hokx h2
      have ih := impl_enc_some d x (by omega) hokx h2
      have hb0 : idx t.f_Base 0 = some x := by rw [hx]; rfl
      rw [if_neg (by omega), if_neg (by omega), if_neg (by omega), if_neg (by omega), if_pos hk, impl_Type_encode_eq, p1, sbind_some, kbne (show t.f_Kind ≠ 1 by omega), kbne (show t.f_Kind ≠ 2 by omega), kbne (show t.f_Kind ≠ 3 by omega), kbne (show t.f_Kind ≠ 4 by omega), kbeq hk, sif_false, sif_false, sif_false, sif_false, sif_true, p1, sbind_some, hb0, sbind_some, ih, sbind_some, sif_pos (joinsT (by rw [leB_len]; omega)), toB_append, sif_pos (joinsT (by rw [List.length_append, leB_len, leB_len]; omega)), toB_append, hx]
      rfl
    · rw [if_neg (by omega), if_neg (by omega), if_neg (by omega), if_neg (by omega), if_neg (by omega), impl_Type_encode_eq, p1, sbind_some, kbne (show t.f_Kind ≠ 1 by omega), kbne (show t.f_Kind ≠ 2 by omega), kbne (show t.f_Kind ≠ 3 by omega), kbne (show t.f_Kind ≠ 4 by omega), kbne (show t.f_Kind ≠ 5 by omega), sif_false, sif_false, sif_false, sif_false, sif_false]
/-! pathL -/
/-! paths -/
def ix : List Int → Option Nat
  | [] => none
  | x :: r => if x = 47 then some 0 else (ix r).map (· + 1)
theorem ix_none : ∀ {t : List Int}, ix t = none → ∀ x ∈ t, x ≠ 47
  | [], _, x, hx => by cases hx
  | y :: r, h, x, hx => by
    rw [ix] at h
    by_cases hy : y = 47
    · rw [if_pos hy] at h; cases h
    · rw [if_neg hy, Option.map_eq_none_iff] at h
      rcases List.mem_cons.1 hx with rfl | hx
      · exact hy
      · exact ix_none h x hx
theorem ix_some : ∀ {t : List Int} {o : Nat}, ix t = some o → t[o]? = some 47 ∧ ∀ (j : Nat) x, j < o → t[j]? = some x → x ≠ 47
  | [], _, h => by cases h
  | y :: r, o, h => by
    rw [ix] at h
    by_cases hy : y = 47
    · rw [if_pos hy] at h; cases h; exact ⟨by rw [hy]; rfl, fun j x hj => absurd hj (Nat.not_lt_zero _)⟩
    · rw [if_neg hy, Option.map_eq_some_iff] at h
      obtain ⟨o', h1, rfl⟩ := h
      obtain ⟨h2, h3⟩ := ix_some h1
      refine ⟨by simpa using h2, fun j x hj hx => ?_⟩
      cases j with
      | zero => simp only [List.getElem?_cons_zero, Option.some.injEq] at hx; rw [← hx]; exact hy
      | succ j => exact h3 j x (by omega) (by simpa using hx)
def segI : Nat → List Int → List (List Int)
  | 0, t => [t]
  | n + 1, t => match ix t with
    | none => [t]
    | some o => t.take o :: segI n (t.drop (o + 1))
def nmI (w : List Int) : Bool := isNm (toB w)
def finP (out : List ByteArray) (ws : List (List Int)) : Bool × List ByteArray := if ws.all nmI = true then (if out.length + ws.length > 6 then (false, []) else (true, out ++ ws.map toB)) else (false, [])
theorem ext_tk (l : List Int) (a b : Nat) : (toB l).extract a b = toB ((l.drop a).take (b - a)) := by rw [extract_toB, List.drop_take]
theorem spec_split_skip (l : List Int) (hl : inB l) (hn : l.length ≤ 1048576) (f : Nat) (out : List ByteArray) : ∀ (n i i0 : Nat), i0 = i + n → i0 ≤ l.length → (∀ j x, i ≤ j → j < i0 → l[j]? = some x → x ≠ 47) → spec_l17Split_l8 (toB l) (f : Int) (i : Int) out = spec_l17Split_l8 (toB l) (f : Int) (i0 : Int) out
  | 0, i, i0, h, _, _ => by rw [show i0 = i by omega]
  | n + 1, i, i0, h, h0, hx => by
    have hlt : i < l.length := by omega
    have hb : l[i]? = some l[i] := List.getElem?_eq_getElem hlt
    have h47 := hx i _ (Nat.le_refl _) (by omega) hb
    rw [spec_l17Split_l8_eq, toB_size, sif_t (by omega), sif_t (by omega), bidx_toB hl (by omega), Int.toNat_natCast, hb, sbind_some, sif_pos (by rw [bne_iff_ne]; exact h47), wi64_add1 (by omega)]
    exact spec_split_skip l hl hn f out n (i + 1) i0 (by omega) h0 (fun j x h1 h2 h3 => hx j x (by omega) h2 h3)
theorem spec_split_loop (l : List Int) (hl : inB l) (hn : l.length ≤ 1048576) : ∀ (n f : Nat) (out : List ByteArray), f ≤ l.length → l.length - f ≤ n → out.length ≤ f → spec_l17Split_l8 (toB l) (f : Int) (f : Int) out = some (finP out (segI n (l.drop f))) := by
  intro n
  induction n with
  | zero =>
    intro f out hf h0 ho
    obtain rfl : f = l.length := by omega
    rw [List.drop_length, spec_l17Split_l8_eq, toB_size, sif_t (by omega), sif_f (by omega), sif_pos (le3_ok (by omega) (by omega)), sif_pos (le3_ok (by omega) (by omega)), Int.toNat_natCast, ext_tk, Nat.sub_self, List.take_zero, spec_IsName_some, sbind_some, finP, segI]
    have hz : isNm (toB []) = false := rfl
    rw [hz, Bool.not_false, sif_true, if_neg (by show ¬ (nmI [] && true) = true; unfold nmI; rw [hz]; simp)]
  | succ n ih =>
    intro f out hf h0 ho
    cases hix : ix (l.drop f) with
    | none =>
      have hno := ix_none hix
      rw [spec_split_skip l hl hn f out (l.length - f) f l.length (by omega) (Nat.le_refl _) (fun j x h1 h2 h3 => hno x (List.mem_of_getElem? (i := j - f) (by rw [List.getElem?_drop, show f + (j - f) = j by omega]; exact h3)))]
      rw [spec_l17Split_l8_eq, toB_size, sif_t (by omega), sif_f (by omega), sif_pos (le3_ok (by omega) (by omega)), sif_pos (le3_ok (by omega) (by omega)), Int.toNat_natCast, Int.toNat_natCast, ext_tk, spec_IsName_some, sbind_some, show segI (n + 1) (l.drop f) = [l.drop f] by rw [segI, hix], List.take_of_length_le (by rw [List.length_drop]; exact Nat.le_refl _)]
      show sif (!nmI (l.drop f)) _ _ = some (if (nmI (l.drop f) && true) = true then (if out.length + 1 > 6 then (false, []) else (true, out ++ [toB (l.drop f)])) else (false, []))
      rw [Bool.and_true]
      cases hnm : nmI (l.drop f) with
      | false => rfl
      | true =>
        rw [Bool.not_true, sif_false, sif_pos (le3_ok (by omega) (by omega)), sif_pos (le3_ok (by omega) (by omega)), sif_pos (room_ok (by omega)), wi64_add1 (by omega), spec_l17Split_l8_eq, toB_size, sif_f (by omega), if_pos rfl, List.length_append, List.length_singleton]
        by_cases h6 : out.length + 1 > 6
        · rw [sif_t (by omega), if_pos h6]
        · rw [sif_f (by omega), if_neg h6]
    | some o =>
      obtain ⟨g1, g2⟩ := ix_some hix
      have ho1 : f + o < l.length := by
        have := (List.getElem?_eq_some_iff.1 g1).1
        rw [List.length_drop] at this; omega
      have g3 : l[f + o]? = some 47 := by rw [List.getElem?_drop] at g1; exact g1
      rw [spec_split_skip l hl hn f out o f (f + o) rfl (by omega) (fun j x h1 h2 h3 => g2 (j - f) x (by omega) (by rw [List.getElem?_drop, show f + (j - f) = j by omega]; exact h3))]
      have hnext := ih (f + o + 1) (out ++ [toB ((l.drop f).take o)]) (by omega) (by omega) (by rw [List.length_append, List.length_singleton]; omega)
      rw [spec_l17Split_l8_eq, toB_size, sif_t (by omega), sif_t (by omega), bidx_toB hl (by omega), Int.toNat_natCast, g3, sbind_some, sif_neg (by rfl), sif_pos (le3_ok (by omega) (by omega)), sif_pos (le3_ok (by omega) (by omega)), Int.toNat_natCast, ext_tk, show f + o - f = o by omega, spec_IsName_some, sbind_some, wi64_add1 (by omega), hnext]
      have hs : segI (n + 1) (l.drop f) = (l.drop f).take o :: segI n ((l.drop f).drop (o + 1)) := by rw [segI, hix]
      rw [hs, List.drop_drop, show f + (o + 1) = f + o + 1 by omega]
      unfold finP
      rw [List.all_cons]
      show sif (!nmI ((l.drop f).take o)) _ _ = _
      cases hnm : nmI ((l.drop f).take o) with
      | false => rfl
      | true =>
        rw [Bool.not_true, sif_false, sif_pos (le3_ok (by omega) (by omega)), sif_pos (le3_ok (by omega) (by omega)), sif_pos (room_ok (by omega)), Bool.true_and, List.length_append, List.length_singleton, List.length_cons, List.map_cons, List.append_assoc, show out.length + 1 + (segI n (l.drop (f + o + 1))).length = out.length + ((segI n (l.drop (f + o + 1))).length + 1) by omega]
        rfl
def pathM : List Int → Bool
  | [] => false
  | x :: r => if x = 47 then (if r = [] then true else ((segI r.length r).all nmI && decide ((segI r.length r).length ≤ 6))) else false
theorem finP_fst (ws : List (List Int)) : (finP [] ws).1 = (ws.all nmI && decide (ws.length ≤ 6)) := by
  unfold finP
  cases ws.all nmI with
  | false => rfl
  | true =>
    rw [if_pos rfl, Bool.true_and]
    by_cases h : ws.length ≤ 6
    · rw [if_neg (by simp; omega), decide_eq_true h]
    · rw [if_pos (by simp; omega), decide_eq_false h]
theorem seqL {a b : List Int} (ha : inB a) (hb : inB b) : seq (toB a) (toB b) = decide (a = b) := by
  rw [seq_eq]
  congr 1
  refine propext ⟨fun h => ?_, fun h => by rw [h]⟩
  have := congrArg ofB h
  rwa [ofB_toB ha, ofB_toB hb] at this
theorem spec_path_some (l : List Int) (hl : inB l) (hn : l.length ≤ 1048576) : spec_ValidPath (toB l) = some (pathM l) := by
  have i47 : inB [47] := by intro x hx; rw [List.mem_singleton] at hx; omega
  have i0 : inB [] := fun x hx => by cases hx
  rw [spec_ValidPath_eq, spec_l17Split_eq, show bs [47] = toB [47] from rfl, show bs [] = toB [] from rfl, seqL hl i47, seqL hl i0]
  cases l with
  | nil => rfl
  | cons x r =>
    have hb : bidx (toB (x :: r)) 0 = some x := by rw [bidx_toB hl (by decide)]; rfl
    rw [decide_eq_false (show ¬ (x :: r) = [] by simp), sif_false, hb, sbind_some]
    by_cases hx : x = 47
    · subst hx
      by_cases hr : r = []
      · subst hr; rfl
      · have h1 : decide ((47 :: r : List Int) = [47]) = false := decide_eq_false (by simp; exact hr)
        have k := spec_split_loop (47 :: r) hl hn r.length 1 [] (by simp) (by simp) (by simp)
        rw [h1, sif_false, show ((47 : Int) != 47) = false from rfl, sif_false, show spec_l17Split_l8 (toB (47 :: r)) 1 1 [] = _ from k, sbind_some, finP_fst, pathM, if_pos rfl, if_neg hr]; rfl
    · have h1 : decide ((x :: r) = [47]) = false := decide_eq_false (by intro h; exact hx (List.cons.inj h).1)
      rw [h1, sif_false, sif_pos (by rw [bne_iff_ne]; exact hx), sbind_some, pathM, if_neg hx]
theorem b47 {x : Int} (h : 0 ≤ x ∧ x ≤ 255) : ((UInt8.ofNat x.toNat : UInt8) == 47) = decide (x = 47) := by
  rw [Bool.eq_iff_iff, beq_iff_eq, decide_eq_true_eq]
  constructor
  · intro e
    have := congrArg UInt8.toNat e
    rw [UInt8.toNat_ofNat_of_lt' (by show x.toNat < 256; omega)] at this
    have h47 : (47 : UInt8).toNat = 47 := rfl
    omega
  · rintro rfl; rfl
theorem ixB_some (l : List Int) (hl : inB l) : Lib.indexByte (l.map fun n => UInt8.ofNat n.toNat) 47 = match ix l with | none => -1 | some o => (o : Int) := by
  induction l with
  | nil => rfl
  | cons x r ih =>
    have ih := ih (fun y hy => hl y (by simp [hy]))
    rw [List.map_cons, Lib.indexByte, b47 (hl x (by simp)), ih, ix]
    by_cases hx : x = 47
    · rw [decide_eq_true hx, if_pos rfl, if_pos hx]; rfl
    · rw [decide_eq_false hx, if_neg Bool.false_ne_true, if_neg hx]
      cases ix r with
      | none => rfl
      | some o =>
        show (if ((o : Int) == -1) = true then (-1 : Int) else (o : Int) + 1) = ((o + 1 : Nat) : Int)
        rw [if_neg (by rw [beq_iff_eq]; omega)]; rfl
theorem indexB47 (l : List Int) (hl : inB l) : Lib.indexB (toB l) (bs [47]) = match ix l with | none => -1 | some o => (o : Int) := by
  rw [Lib.one _ _ (by rfl)]
  have e : (toB l).data.toList = l.map fun n : Int => UInt8.ofNat n.toNat := by simp [toB]
  rw [e]
  exact ixB_some l hl
theorem split_segs : ∀ (n : Nat) (l : List Int), inB l → l.length ≤ n → Lib.splitB (bs [47]) 0 (Lib.countB (toB l) (bs [47])) (toB l) = (segI n l).map toB
  | 0, l, hl, hn => by
    obtain rfl : l = [] := List.length_eq_zero_iff.1 (by omega)
    rw [Lib.splitB_miss _ _ _ _ (by rw [indexB47 [] hl]; rfl)]; rfl
  | n + 1, l, hl, hn => by
    have hb := indexB47 l hl
    cases hix : ix l with
    | none =>
      rw [hix] at hb
      rw [Lib.splitB_miss _ _ _ _ hb, segI, hix]; rfl
    | some o =>
      rw [hix] at hb
      obtain ⟨g1, _⟩ := ix_some hix
      have ho := (List.getElem?_eq_some_iff.1 g1).1
      have ih := split_segs n (l.drop (o + 1)) (inB_drop hl _) (by rw [List.length_drop]; omega)
      have hsz : (bs [47]).size = 1 := rfl
      have he : (toB l).extract (o + (bs [47]).size) (toB l).size = toB (l.drop (o + 1)) := by
        rw [hsz, toB_size, ext_tk, List.take_of_length_le (by rw [List.length_drop]; exact Nat.le_refl _)]
      rw [Lib.countB_hit _ _ o (by rw [hsz]; exact Nat.le_refl _) hb, he, Nat.add_comm, Lib.splitB_hit _ _ _ _ o hb, he, ih, segI, hix, ext_tk]
      simp
theorem segI_len : ∀ (n : Nat) (l : List Int), (segI n l).length ≤ n + 1 ∧ ∀ w ∈ segI n l, w.length ≤ l.length
  | 0, l => ⟨by simp [segI], fun w hw => by simp [segI] at hw; rw [hw]; exact Nat.le_refl _⟩
  | n + 1, l => by
    rw [segI]
    cases ix l with
    | none => exact ⟨by simp, fun w hw => by simp at hw; rw [hw]; exact Nat.le_refl _⟩
    | some o =>
      obtain ⟨h1, h2⟩ := segI_len n (l.drop (o + 1))
      refine ⟨by simp; omega, fun w hw => ?_⟩
      rcases List.mem_cons.1 hw with rfl | hw
      · rw [List.length_take]; omega
      · have := h2 w hw; rw [List.length_drop] at this; omega
theorem impl_split_some (l : List Int) (hl : inB l) (hn : l.length ≤ 1048576) : strings_Split (toB l) (bs [47]) = some ((segI l.length l).map toB) := by
  rw [strings_Split_eq, splitI, if_pos ⟨by rw [toB_size]; omega, by decide⟩, split_segs l.length l hl (Nat.le_refl _)]
theorem impl_names_some (ws : List ByteArray) (hw : ws.length ≤ 1048577) (hs : ∀ w ∈ ws, w.size ≤ 1048576) : slices_ContainsFunc_sstring_string_d_splitPath_1 ws = some (!ws.all isNm) := by
  have k1 : slices_ContainsFunc_sstring_string_d_splitPath_1 ws = some (ws.any (fun n => !isNm n)) := by
    rw [slices_ContainsFunc_sstring_string_d_splitPath_1_eq, slices_IndexFunc_sstring_string_d_splitPath_1_eq]
    refine find_any (find_loop ws _ (fun i => slices_IndexFunc_sstring_string_d_splitPath_1_l2 ws (ws.length : Int) i) (by rw [slices_IndexFunc_sstring_string_d_splitPath_1_l2_eq, sif_f (by omega)]) (fun i x hx hi => ?_))
    rw [slices_IndexFunc_sstring_string_d_splitPath_1_l2_eq, sif_t (by omega), idx_some hx, sbind_some, impl_splitPath_1_eq, impl_IsName_some x (by have := hs x (mem_of_at hx); omega), sbind_some, sbind_some, wi64_add1 (by omega)]
  rw [k1, any_not_all ws isNm _ (fun _ _ => rfl)]
theorem cutPre47 (x : Int) (r : List Int) (hx : 0 ≤ x ∧ x ≤ 255) : cutPre (toB (x :: r)) (bs [47]) = if x = 47 then (toB r, true) else (toB (x :: r), false) := by
  have e : (toB (x :: r)).data.toList = UInt8.ofNat x.toNat :: r.map fun n : Int => UInt8.ofNat n.toNat := by simp [toB]
  have e2 : (bs [47]).data.toList = [47] := rfl
  have hp : Lib.hasPrefix (UInt8.ofNat x.toNat :: r.map fun n : Int => UInt8.ofNat n.toNat) [47] = decide (x = 47) := by
    rw [← b47 hx]
    unfold Lib.hasPrefix
    rw [List.isPrefixOf, List.isPrefixOf, Bool.and_true, Bool.beq_comm]
  unfold cutPre
  rw [e, e2, Lib.trimPrefix, hp]
  by_cases h : x = 47
  · rw [decide_eq_true h, if_pos rfl, if_pos h]
    simp [toB]
  · rw [decide_eq_false h, if_neg Bool.false_ne_true, if_neg h]
    congr 1
theorem impl_path_some (l : List Int) (hl : inB l) (hn : l.length ≤ 1048576) : impl_ValidPath (toB l) = some (pathM l) := by
  have i47 : inB [47] := by intro x hx; rw [List.mem_singleton] at hx; omega
  rw [impl_ValidPath_eq, impl_splitPath_eq, show seq (toB l) (bs [47]) = _ from seqL hl i47]
  cases l with
  | nil =>
    rw [decide_eq_false (by simp), sif_false, strings_CutPrefix_eq]
    have hc : cutPre (toB []) (bs [47]) = (toB [], false) := rfl
    rw [hc, sbind_some, impl_split_some [] hl (by simp), sbind_some]; rfl
  | cons x r =>
    have hx0 := hl x (by simp)
    have hr0 : inB r := fun y hy => hl y (by simp [hy])
    rw [strings_CutPrefix_eq, cutPre47 x r hx0, pathM]
    by_cases hx : x = 47
    · subst hx
      rw [if_pos rfl, if_pos rfl]
      by_cases hr : r = []
      · subst hr; rfl
      · have hrl : r.length ≤ 1048576 := by rw [List.length_cons] at hn; omega
        obtain ⟨s1, s2⟩ := segI_len r.length r
        rw [decide_eq_false (by simp; exact hr), sif_false, sbind_some, if_neg hr, impl_split_some r hr0 hrl, sbind_some, Bool.not_true, sif_false, List.length_map]
        by_cases h6 : (segI r.length r).length ≤ 6
        · rw [sif_f (by omega), impl_names_some _ (by rw [List.length_map]; omega) (fun w hw => by
            obtain ⟨v, hv, rfl⟩ := List.mem_map.1 hw
            have := s2 v hv
            rw [toB_size]; omega), sbind_some, List.all_map, decide_eq_true h6, Bool.and_true]
          show sbind (sif (!(segI r.length r).all nmI) _ _) _ = _
          cases (segI r.length r).all nmI <;> rfl
        · rw [sif_t (by omega), decide_eq_false h6, Bool.and_false]; rfl
    · rw [if_neg hx, if_neg hx, decide_eq_false (by intro h; exact hx (List.cons.inj h).1), sif_false, sbind_some, impl_split_some (x :: r) hl hn, sbind_some]; rfl
/-! bldL -/
/-! builders of texts -/
theorem ws_some (s buf : List Int) (hs : inB s) (h : buf.length + s.length ≤ 1000000000) : strings_Builder_WriteString_wv (toB s) buf = some ((s.length : Int), buf ++ s) := by
  rw [strings_Builder_WriteString_wv_eq, strings_Builder_copyCheck_eq, sbind_some, ofB_toB hs, sif_pos (room_ok (by omega)), toB_size]
theorem bst_some (buf : List Int) (h : buf.length ≤ 1000000000) : strings_Builder_String buf = some (toB buf) := by
  rw [strings_Builder_String_eq]
  unfold textB
  rw [if_pos (by omega)]
/-! mapL -/
/-! the binary form of a mapping -/
def nb (l : List Int) : List Int := l.flatMap (fun n => [wu8 n])
theorem nb_len (l : List Int) : (nb l).length = l.length := by
  unfold nb
  induction l with
  | nil => rfl
  | cons a l ih => rw [List.flatMap_cons, List.length_append, ih]; simp; omega
theorem spec_bytes_some (l : List Int) (hl : l.length ≤ 1048576) : spec_l24Bytes l = some (toB (nb l)) := by
  rw [spec_l24Bytes_eq]
  have k := loop_up l (fun i (o : List Int) => spec_l24Bytes_l3 l (i : Int) o) (fun r o => some (toB (o ++ nb r))) (fun i o => o.length ≤ i)
    (fun o _ => by rw [spec_l24Bytes_l3_eq, sif_f (by omega)]; simp [nb])
    (fun i x r o hx hi hdr hI ih => by
      rw [spec_l24Bytes_l3_eq, sif_t (by omega), idx_some hx, sbind_some, sif_pos (room_ok (by omega)), wi64_add1 (by omega), ih _ (by rw [List.length_append, List.length_singleton]; omega)]
      unfold nb; rw [List.flatMap_cons, List.append_assoc]) 0 [] (by omega) (by simp)
  exact k
theorem impl_nums_some (l : List Int) (hl : l.length ≤ 1000) : impl_putNumbers l = some (toB (nb l)) := by
  rw [impl_putNumbers_eq]
  have k := loop_up l (fun i (o : List Int) => impl_putNumbers_l3 l (l.length : Int) (i : Int) o) (fun r o => some (toB (o ++ nb r))) (fun i o => o.length ≤ i)
    (fun o hI => by rw [impl_putNumbers_l3_eq, sif_f (by omega), bst_some o (by omega), sbind_some]; simp [nb])
    (fun i x r o hx hi hdr hI ih => by
      have hp : impl_putBytes x 1 = some (toB (leB x 1)) := impl_putBytes_some x 1 (by omega)
      rw [impl_putNumbers_l3_eq, sif_t (by omega), idx_some hx, sbind_some, hp, sbind_some, ws_some _ o (leB_in x 1) (by rw [leB_len]; omega), sbind_some, wi64_add1 (by omega), ih _ (by rw [List.length_append, leB_len]; omega), leB_one]
      unfold nb; rw [List.flatMap_cons, List.append_assoc]) 0 [] (by omega) (by simp)
  exact k
def slE (k : Int) (a b c d : List Int) (P : List (List Int)) : List Int :=
  if k = 3 then (nb [k] ++ nb [(a.length : Int)]) ++ (((nb a ++ nb b) ++ nb c) ++ nb d) else if k = 4 then (nb [k] ++ nb [(P.length : Int), ((P.headD []).length : Int)]) ++ P.flatMap nb else nb [k]
theorem slE_len {k : Int} {a b c d : List Int} {P : List (List Int)} (h : formM k a b c d P = true) : (slE k a b c d P).length ≤ 1000 := by
  unfold slE
  split
  · next hk =>
    obtain ⟨f1, f2, f3, f4, f5, f6⟩ := form_slab h hk
    simp only [List.length_append, nb_len, List.length_singleton]; omega
  · split
    · next hk =>
      obtain ⟨_, h4⟩ := form_pts h hk
      obtain ⟨q, r, h5, h6, h7, h8⟩ := pts_in h4
      have := flat_len nb 3 P (fun p hp => by rw [nb_len, (h8 p hp).1]; exact h7)
      simp only [List.length_append, nb_len, List.length_singleton, List.length_cons, List.length_nil]; omega
    · rw [nb_len]; simp
theorem spec_sle_some (k : Int) (a b c d : List Int) (P : List (List Int)) (h : formM k a b c d P = true) : spec_l24Selection k a b c d P = some (toB (slE k a b c d P)) := by
  rw [spec_l24Selection_eq, spec_bytes_some [k] (by simp), sbind_some, slE]
  by_cases k3 : k = 3
  · obtain ⟨f1, f2, f3, f4, f5, f6⟩ := form_slab h k3
    rw [kbeq k3, sif_true, if_pos k3, spec_bytes_some [(a.length : Int)] (by simp), sbind_some, sif_pos (joinsT (by simp [nb_len])), spec_bytes_some a (by omega), sbind_some, spec_bytes_some b (by omega), sbind_some, sif_pos (joinsT (by rw [nb_len, nb_len]; omega)), spec_bytes_some c (by omega), sbind_some, toB_append, toB_append, sif_pos (joinsT (by rw [List.length_append, nb_len, nb_len, nb_len]; omega)), spec_bytes_some d (by omega), sbind_some, toB_append, sif_pos (joinsT (by simp only [List.length_append, nb_len]; omega)), toB_append,
      sif_pos (joinsT (by simp only [List.length_append, nb_len, List.length_singleton]; omega)), toB_append]
  rw [kbne k3, sif_false, if_neg k3]
  by_cases k4 : k = 4
  · obtain ⟨_, h4⟩ := form_pts h k4
    obtain ⟨q, r, h5, h6, h7, h8⟩ := pts_in h4
    have h0 : idx P 0 = some q := by rw [h5]; rfl
    have hq : P.headD [] = q := by rw [h5]; rfl
    rw [kbeq k4, sif_true, if_pos k4, h0, sbind_some, spec_bytes_some [(P.length : Int), (q.length : Int)] (by simp), sbind_some, sif_pos (joinsT (by simp [nb_len])), toB_append, hq]
    have lp := loop_cat P (fun i out => spec_l24Selection_l9 out (i : Int) k a b c d P) nb 3 10 1000 (by omega) (fun p hp => by rw [nb_len, (h8 p hp).1]; exact h7) (fun o => some (toB o))
      (fun o ho => by rw [spec_l24Selection_l9_eq, sif_f (by omega)])
      (fun i p o hp hi hl ho => by
        rw [spec_l24Selection_l9_eq, sif_t (by omega), idx_some hp, sbind_some, spec_bytes_some p (by rw [nb_len] at hl; omega), sbind_some, sif_pos (joinsT (by omega)), toB_append, wi64_add1 (by omega)]) (nb [k] ++ nb [(P.length : Int), (q.length : Int)]) (by simp [nb_len])
    exact lp
  · rw [kbne k4, sif_false, if_neg k4]
theorem impl_sle_some (k : Int) (a b c d : List Int) (P : List (List Int)) (h : formM k a b c d P = true) : impl_Selection_encode k a b c d P = some (toB (slE k a b c d P)) := by
  have pb : ∀ n : Int, impl_putBytes n 1 = some (toB (nb [n])) := fun n => by
    have hp : impl_putBytes n 1 = some (toB (leB n 1)) := impl_putBytes_some n 1 (by omega)
    rw [hp, leB_one]; rfl
  rw [impl_Selection_encode_eq, pb, sbind_some, slE]
  by_cases k3 : k = 3
  · obtain ⟨f1, f2, f3, f4, f5, f6⟩ := form_slab h k3
    rw [kbeq k3, sif_true, if_pos k3, pb, sbind_some, sif_pos (joinsT (by simp [nb_len])), impl_Selection_lists_eq, sbind_some, toB_append]
    have lp := loop_cat [a, b, c, d] (fun i out => impl_Selection_encode_l6 out (([a, b, c, d].length : Nat) : Int) (i : Int) [a, b, c, d]) nb 3 10 1000 (by simp) (fun p hp => by
        rw [nb_len]; simp only [List.mem_cons, List.not_mem_nil, or_false] at hp; rcases hp with rfl | rfl | rfl | rfl <;> omega) (fun o => some (toB o))
      (fun o ho => by rw [impl_Selection_encode_l6_eq, sif_f (by omega)])
      (fun i p o hp hi hl ho => by
        rw [nb_len] at hl
        rw [impl_Selection_encode_l6_eq, sif_t (by omega), sif_pos (lt3_ok (by omega) (by omega)), Int.toNat_natCast, hp, sbind_some, impl_nums_some p (by omega), sbind_some, sif_pos (joinsT (by rw [nb_len]; omega)), toB_append, wi64_add1 (by simp at hi; omega)]) (nb [k] ++ nb [(a.length : Int)]) (by simp [nb_len])
    refine (show impl_Selection_encode_l6 (toB (nb [k] ++ nb [(a.length : Int)])) (([a, b, c, d].length : Nat) : Int) 0 [a, b, c, d] = _ from lp).trans ?_
    simp
  rw [kbne k3, sif_false, if_neg k3]
  by_cases k4 : k = 4
  · obtain ⟨_, h4⟩ := form_pts h k4
    obtain ⟨q, r, h5, h6, h7, h8⟩ := pts_in h4
    have h0 : idx P 0 = some q := by rw [h5]; rfl
    have hq : P.headD [] = q := by rw [h5]; rfl
    have e2 : nb [(P.length : Int)] ++ nb [(q.length : Int)] = nb [(P.length : Int), (q.length : Int)] := rfl
    rw [kbeq k4, sif_true, if_pos k4, pb, sbind_some, h0, sbind_some, pb, sbind_some, sif_pos (joinsT (by simp [nb_len])), toB_append, e2, sif_pos (joinsT (by simp [nb_len])), toB_append, hq]
    have lp := loop_cat P (fun i out => impl_Selection_encode_l13 out P (P.length : Int) (i : Int)) nb 3 10 1000 (by omega) (fun p hp => by rw [nb_len, (h8 p hp).1]; exact h7) (fun o => some (toB o))
      (fun o ho => by rw [impl_Selection_encode_l13_eq, sif_f (by omega)])
      (fun i p o hp hi hl ho => by
        rw [impl_Selection_encode_l13_eq, sif_t (by omega), idx_some hp, sbind_some, impl_nums_some p (by rw [nb_len] at hl; omega), sbind_some, sif_pos (joinsT (by omega)), toB_append, wi64_add1 (by omega)]) (nb [k] ++ nb [(P.length : Int), (q.length : Int)]) (by simp [nb_len])
    exact lp
  · rw [kbne k4, sif_false, if_neg k4]
/-! mappings -/
def mpE (s : ByteArray) (k : Int) (a b c d : List Int) (P : List (List Int)) (k2 : Int) (a2 b2 c2 d2 : List Int) (P2 : List (List Int)) : List Int := ((nb [(s.size : Int)] ++ ofB s) ++ slE k a b c d P) ++ slE k2 a2 b2 c2 d2 P2
def mpM (s : ByteArray) (k : Int) (a b c d : List Int) (P : List (List Int)) (k2 : Int) (a2 b2 c2 d2 : List Int) (P2 : List (List Int)) : Bool :=
  pathM (ofB s) && (formM k a b c d P && (formM k2 a2 b2 c2 d2 P2 && (!(k == 2) && (!(k2 == 2) && decide (((mpE s k a b c d P k2 a2 b2 c2 d2 P2).length : Int) ≤ 200)))))
theorem spec_mp_some (s : ByteArray) (hs : s.size ≤ 1048576) (k : Int) (a b c d : List Int) (P : List (List Int)) (k2 : Int) (a2 b2 c2 d2 : List Int) (P2 : List (List Int)) : spec_l24Formed s k a b c d P k2 a2 b2 c2 d2 P2 = some (mpM s k a b c d P k2 a2 b2 c2 d2 P2) := by
  have hp := spec_path_some (ofB s) (ofB_inB s) (by rw [ofB_len]; exact hs)
  rw [toB_ofB] at hp
  rw [spec_l24Formed_eq, hp, sbind_some, spec_form_some, sbind_some, spec_form_some, sbind_some, mpM]
  cases pathM (ofB s) with
  | false => rfl
  | true =>
    cases f1 : formM k a b c d P with
    | false => rfl
    | true =>
      cases f2 : formM k2 a2 b2 c2 d2 P2 with
      | false => rfl
      | true =>
        rw [Bool.not_true, sif_false, sif_false, sif_false, Bool.true_and, Bool.true_and, Bool.true_and]
        by_cases k1 : k = 2
        · rw [kbeq k1]; rfl
        rw [kbne k1, sif_false, Bool.not_false, Bool.true_and]
        by_cases k3 : k2 = 2
        · rw [kbeq k3]; rfl
        rw [kbne k3, sif_false, Bool.not_false, Bool.true_and]
        have l1 := slE_len f1
        have l2 := slE_len f2
        have es : toB (ofB s) = s := toB_ofB s
        have hsl : (ofB s).length = s.size := ofB_len s
        have j1 : joins (toB (nb [(s.size : Int)])) s = true := joins_ok (by rw [toB_size, nb_len]; simp; omega)
        have a1 : toB (nb [(s.size : Int)]) ++ s = toB (nb [(s.size : Int)] ++ ofB s) := by rw [← toB_append, es]
        rw [spec_l24Encode_eq, spec_bytes_some [(s.size : Int)] (by simp), sbind_some, sif_pos j1, a1, spec_sle_some k a b c d P f1, sbind_some, sif_pos (joinsT (by simp only [List.length_append, nb_len, List.length_singleton]; omega)), toB_append, spec_sle_some k2 a2 b2 c2 d2 P2 f2, sbind_some, sif_pos (joinsT (by simp only [List.length_append, nb_len, List.length_singleton]; omega)), toB_append, sbind_some, toB_size]
        rfl
theorem impl_mp_some (s : ByteArray) (hs : s.size ≤ 1048576) (k : Int) (a b c d : List Int) (P : List (List Int)) (k2 : Int) (a2 b2 c2 d2 : List Int) (P2 : List (List Int)) (hA : selLen ((k, a, b, c, d, P) : SelK)) (hB : selLen ((k2, a2, b2, c2, d2, P2) : SelK)) : impl_mappingOk s k a b c d P k2 a2 b2 c2 d2 P2 = some (mpM s k a b c d P k2 a2 b2 c2 d2 P2) := by
  have hp := impl_path_some (ofB s) (ofB_inB s) (by rw [ofB_len]; exact hs)
  rw [toB_ofB] at hp
  rw [impl_mappingOk_eq, hp, sbind_some, impl_form_some _ _ _ _ _ _ hA, sbind_some, impl_form_some _ _ _ _ _ _ hB, sbind_some, mpM]
  cases pathM (ofB s) with
  | false => rfl
  | true =>
    cases f1 : formM k a b c d P with
    | false => rfl
    | true =>
      cases f2 : formM k2 a2 b2 c2 d2 P2 with
      | false => rfl
      | true =>
        rw [sif_true, sif_true, sif_true, Bool.true_and, Bool.true_and, Bool.true_and]
        by_cases k1 : k = 2
        · rw [kbeq k1, sif_f' (by rw [bne_eq_false_iff_eq]; exact k1)]; rfl
        rw [kbne k1, sif_pos (by rw [bne_iff_ne]; exact k1), Bool.not_false, Bool.true_and]
        by_cases k3 : k2 = 2
        · rw [kbeq k3, sif_f' (by rw [bne_eq_false_iff_eq]; exact k3)]; rfl
        rw [kbne k3, sif_pos (by rw [bne_iff_ne]; exact k3), Bool.not_false, Bool.true_and]
        have l1 := slE_len f1
        have l2 := slE_len f2
        have hsl : (ofB s).length = s.size := ofB_len s
        have e1 : leB (s.size : Int) 1 ++ ofB s = nb [(s.size : Int)] ++ ofB s := by rw [leB_one]; rfl
        rw [impl_Mapping_encode_eq, impl_putName_some s (by omega), sbind_some, e1, impl_sle_some k a b c d P f1, sbind_some, sif_pos (joinsT (by simp only [List.length_append, nb_len, List.length_singleton]; omega)), toB_append, impl_sle_some k2 a2 b2 c2 d2 P2 f2, sbind_some, sif_pos (joinsT (by simp only [List.length_append, nb_len, List.length_singleton]; omega)), toB_append, sbind_some, toB_size]
        rfl
/-! virtL -/
/-! virtual datasets -/
def mpQ (D : List Int) (m : MapK) : Bool := mpM m.1 m.2.1 m.2.2.1 m.2.2.2.1 m.2.2.2.2.1 m.2.2.2.2.2.1 m.2.2.2.2.2.2.1 m.2.2.2.2.2.2.2.1 m.2.2.2.2.2.2.2.2.1 m.2.2.2.2.2.2.2.2.2.1 m.2.2.2.2.2.2.2.2.2.2.1 m.2.2.2.2.2.2.2.2.2.2.2.1 m.2.2.2.2.2.2.2.2.2.2.2.2 && fitM D m.2.2.2.2.2.2.2.1 m.2.2.2.2.2.2.2.2.1 m.2.2.2.2.2.2.2.2.2.1 m.2.2.2.2.2.2.2.2.2.2.1 m.2.2.2.2.2.2.2.2.2.2.2.1 m.2.2.2.2.2.2.2.2.2.2.2.2
def vtM (t : Ty_Type) (D : List Int) (b : ByteArray) (M : List MapK) : Bool :=
  vT 3 t && (decide (((ecT 3 t).length : Int) ≤ 200) && (dimsM D && (eT 3 t (ofB b) && (decide ((M.length : Int) ≤ 6) && M.all (mpQ D)))))
theorem mp_form {s : ByteArray} {k : Int} {a b c d : List Int} {P : List (List Int)} {k2 : Int} {a2 b2 c2 d2 : List Int} {P2 : List (List Int)} (h : mpM s k a b c d P k2 a2 b2 c2 d2 P2 = true) : formM k a b c d P = true ∧ formM k2 a2 b2 c2 d2 P2 = true := by
  unfold mpM at h
  simp only [Bool.and_eq_true] at h
  exact ⟨h.2.1, h.2.2.1⟩
def mapLen (m : MapK) : Prop := selLen (m.2.1, m.2.2.1, m.2.2.2.1, m.2.2.2.2.1, m.2.2.2.2.2.1, m.2.2.2.2.2.2.1) ∧ selLen (m.2.2.2.2.2.2.2.1, m.2.2.2.2.2.2.2.2.1, m.2.2.2.2.2.2.2.2.2.1, m.2.2.2.2.2.2.2.2.2.2.1, m.2.2.2.2.2.2.2.2.2.2.2.1, m.2.2.2.2.2.2.2.2.2.2.2.2)
theorem okA_sel {s : SelK} (h : OkA_Selection s) : selLen s := ⟨len_bound h.2.1.2.1 (by decide), len_bound h.2.2.1.2.1 (by decide), len_bound h.2.2.2.1.2.1 (by decide), len_bound h.2.2.2.2.1.2.1 (by decide), len_bound h.2.2.2.2.2.2.1 (by decide), fun x hx => len_bound (h.2.2.2.2.2.2.2 x hx).2.1 (by decide)⟩
theorem okA_map {m : MapK} (h : OkA_Mapping m) : mapLen m :=
  ⟨okA_sel ⟨h.2.1, h.2.2.1, h.2.2.2.1, h.2.2.2.2.1, h.2.2.2.2.2.1, h.2.2.2.2.2.2.1⟩, okA_sel ⟨h.2.2.2.2.2.2.2.1, h.2.2.2.2.2.2.2.2.1, h.2.2.2.2.2.2.2.2.2.1, h.2.2.2.2.2.2.2.2.2.2.1, h.2.2.2.2.2.2.2.2.2.2.2.1, h.2.2.2.2.2.2.2.2.2.2.2.2⟩⟩
theorem spec_vt_some (t : Ty_Type) (hok : Ok_Ty_Type t) (D : List Int) (b : ByteArray) (hb : b.size ≤ 1048576) (M : List MapK) (hM : ∀ m ∈ M, m.1.size ≤ 1048576) :
    spec_l24Ok t.f_Kind t.f_Size t.f_Signed t.f_Big t.f_Names t.f_Nums t.f_Members t.f_Base t.f_Count D b M = some (vtM t D b M) := by
  rw [spec_l24Ok_eq, spec_EncodeType_eq, spec_ok_some t hok, sbind_some, sbind_some, vtM]
  cases hv : vT 3 t with
  | false => rfl
  | true =>
    have he := spec_elt_some 3 t (ofB b) hv (ofB_inB b) (by rw [ofB_len]; exact hb)
    rw [toB_ofB] at he
    rw [Bool.not_true, sif_false, sif_false, Bool.true_and, spec_enc_some 3 t (by omega) hok hv, sbind_some, sbind_some, toB_size]
    by_cases hl : ((ecT 3 t).length : Int) > 200
    · rw [sif_t hl, decide_eq_false (by omega), Bool.false_and]
    rw [sif_f hl, decide_eq_true (show ((ecT 3 t).length : Int) ≤ 200 by omega), Bool.true_and, spec_dims_some, sbind_some]
    cases hd : dimsM D with
    | false => rfl
    | true =>
      rw [Bool.not_true, sif_false, Bool.true_and, he, sbind_some]
      cases eT 3 t (ofB b) with
      | false => rfl
      | true =>
        rw [Bool.not_true, sif_false, Bool.true_and]
        by_cases hn : (M.length : Int) > 6
        · rw [sif_t hn, decide_eq_false (by omega), Bool.false_and]
        rw [sif_f hn, decide_eq_true (show (M.length : Int) ≤ 6 by omega), Bool.true_and]
        have kk := all_loop M (mpQ D) (fun i => spec_l24Ok_l4 (i : Int) t.f_Kind t.f_Size t.f_Signed t.f_Big t.f_Names t.f_Nums t.f_Members t.f_Base t.f_Count D b M) false (fun i m hm hi => by
          rw [spec_l24Ok_l4_eq, sif_t (by omega), idx_some hm, sbind_some, sbind_some, spec_mp_some m.1 (hM m (mem_of_at hm)), sbind_some, wi64_add1 (by omega), mpQ]
          cases h1 : mpM m.1 m.2.1 m.2.2.1 m.2.2.2.1 m.2.2.2.2.1 m.2.2.2.2.2.1 m.2.2.2.2.2.2.1 m.2.2.2.2.2.2.2.1 m.2.2.2.2.2.2.2.2.1 m.2.2.2.2.2.2.2.2.2.1 m.2.2.2.2.2.2.2.2.2.2.1 m.2.2.2.2.2.2.2.2.2.2.2.1 m.2.2.2.2.2.2.2.2.2.2.2.2 with
          | false => rfl
          | true =>
            simp only [Bool.not_true, sif_false, spec_sel_some, hd, (mp_form h1).2, sbind_some, Bool.true_and, sif_not])
        rw [show spec_l24Ok_l4 0 t.f_Kind t.f_Size t.f_Signed t.f_Big t.f_Names t.f_Nums t.f_Members t.f_Base t.f_Count D b M = _ from kk, spec_l24Ok_l4_eq, sif_f (by omega), sif_bool, Bool.and_true]
theorem impl_vt_some (t : Ty_Type) (hok : Ok_Ty_Type t) (D : List Int) (b : ByteArray) (hb : b.size ≤ 1048576) (M : List MapK) (hM : ∀ m ∈ M, m.1.size ≤ 1048576) (hL : ∀ m ∈ M, mapLen m) :
    impl_ValidVirtual t.f_Kind t.f_Size t.f_Signed t.f_Big t.f_Names t.f_Nums t.f_Members t.f_Base t.f_Count D b M = some (vtM t D b M) := by
  rw [impl_ValidVirtual_eq, impl_typeFits_eq, impl_ValidType_eq, show impl_Type_valid t.f_Kind t.f_Size t.f_Signed t.f_Big t.f_Names t.f_Nums t.f_Members t.f_Base t.f_Count 3 = _ from impl_valid_some 3 (by omega) t hok, sbind_some, sbind_some, vtM]
  cases hv : vT 3 t with
  | false => rfl
  | true =>
    have he := impl_elt_some 3 t (ofB b) hok hv (ofB_inB b) (by rw [ofB_len]; exact hb)
    rw [toB_ofB] at he
    rw [sif_true, Bool.true_and, impl_enc_some 3 t (by omega) hok hv, sbind_some, toB_size, sbind_some]
    cases decide (((ecT 3 t).length : Int) ≤ 200) with
    | false => rfl
    | true =>
      rw [Bool.not_true, sif_false, Bool.true_and, impl_dims_some, sbind_some]
      cases hd : dimsM D with
      | false => rfl
      | true =>
        rw [Bool.not_true, sif_false, Bool.true_and, he, sbind_some]
        cases eT 3 t (ofB b) with
        | false => rfl
        | true =>
          rw [Bool.not_true, sif_false, Bool.true_and]
          by_cases hn : (M.length : Int) > 6
          · rw [sif_t hn, decide_eq_false (by omega), Bool.false_and]
          rw [sif_f hn, decide_eq_true (show (M.length : Int) ≤ 6 by omega), Bool.true_and, slices_ContainsFunc_simpl_Mapping_impl_Mapping_d_ValidVirtual_1_eq, slices_IndexFunc_simpl_Mapping_impl_Mapping_d_ValidVirtual_1_eq]
          have kk := find_any (find_loop M (fun m => !mpQ D m) (fun i => slices_IndexFunc_simpl_Mapping_impl_Mapping_d_ValidVirtual_1_l2 M (M.length : Int) i t.f_Kind t.f_Size t.f_Signed t.f_Big t.f_Names t.f_Nums t.f_Members t.f_Base t.f_Count D b M) (by rw [slices_IndexFunc_simpl_Mapping_impl_Mapping_d_ValidVirtual_1_l2_eq, sif_f (by omega)]) (fun i m hm hi => by
            have hl := hL m (mem_of_at hm)
            rw [slices_IndexFunc_simpl_Mapping_impl_Mapping_d_ValidVirtual_1_l2_eq, sif_t (by omega), idx_some hm, sbind_some, impl_ValidVirtual_1_eq, impl_mp_some m.1 (hM m (mem_of_at hm)) _ _ _ _ _ _ _ _ _ _ _ _ hl.1 hl.2, sbind_some, wi64_add1 (by omega), mpQ]
            cases h1 : mpM m.1 m.2.1 m.2.2.1 m.2.2.2.1 m.2.2.2.2.1 m.2.2.2.2.2.1 m.2.2.2.2.2.2.1 m.2.2.2.2.2.2.2.1 m.2.2.2.2.2.2.2.2.1 m.2.2.2.2.2.2.2.2.2.1 m.2.2.2.2.2.2.2.2.2.2.1 m.2.2.2.2.2.2.2.2.2.2.2.1 m.2.2.2.2.2.2.2.2.2.2.2.2 with
            | false => rfl
            | true =>
              rw [Bool.not_true, sif_false, impl_fits_some D hd _ _ _ _ _ _ (mp_form h1).2, sbind_some, sbind_some, Bool.true_and]))
          rw [kk, sbind_some, not_any_all]
          congr 1
          exact all_congr_mem (fun m _ => by rw [Bool.not_not])
theorem szMap_bound (m : MapK) (h : OkA_Mapping m) (left : Int) (h0 : 0 ≤ left) (h1 : left ≤ 1048576) :
    ∃ r, laws_szMapping m.1 m.2.1 m.2.2.1 m.2.2.2.1 m.2.2.2.2.1 m.2.2.2.2.2.1 m.2.2.2.2.2.2.1 m.2.2.2.2.2.2.2.1 m.2.2.2.2.2.2.2.2.1 m.2.2.2.2.2.2.2.2.2.1 m.2.2.2.2.2.2.2.2.2.2.1 m.2.2.2.2.2.2.2.2.2.2.2.1 m.2.2.2.2.2.2.2.2.2.2.2.2 left = some r ∧ -1 ≤ r ∧ r ≤ 1048576 ∧ (0 ≤ r → m.1.size ≤ 1048576) := by
  by_cases c : m.1.size ≤ 1048576
  · obtain ⟨r, e, a, b⟩ := szMapping_a m h left h0 h1
    exact ⟨r, e, a, b, fun _ => c⟩
  · have := h.1
    rw [laws_szMapping_eq, wi64_id (by omega) (by omega), sif_t (by omega)]
    exact ⟨-1, rfl, by omega, by omega, fun h => by omega⟩
theorem szMaps_bound (L : List MapK) (hn : L.length ≤ 140737488351232) (hL : ∀ m ∈ L, OkA_Mapping m) (left : Int) (h0 : 0 ≤ left) (h1 : left ≤ 1048576) : ∃ r, laws_szMappingS L left = some r ∧ -1 ≤ r ∧ r ≤ 1048576 ∧ (0 ≤ r → ∀ m ∈ L, m.1.size ≤ 1048576) := by
  have key : ∀ (n i : Nat) (s : Int), L.length = i + n → 0 ≤ s → s ≤ 1048576 → ∃ r, laws_szMappingS_l5 L s (i : Int) = some r ∧ -1 ≤ r ∧ r ≤ 1048576 ∧ (0 ≤ r → ∀ m ∈ L.drop i, m.1.size ≤ 1048576) := by
    intro n
    induction n with
    | zero =>
      intro i s hi g0 g1
      rw [laws_szMappingS_l5_eq, sif_f (by omega)]
      exact ⟨s, rfl, by omega, g1, fun _ m hm => by rw [List.drop_of_length_le (by omega)] at hm; cases hm⟩
    | succ n ih =>
      intro i s hi g0 g1
      have hlt : i < L.length := by omega
      have hm : L[i]? = some L[i] := List.getElem?_eq_getElem hlt
      obtain ⟨r, e, a, b, c⟩ := szMap_bound L[i] (hL _ (List.getElem_mem hlt)) s g0 g1
      rw [laws_szMappingS_l5_eq, sif_t (by omega), idx_some hm, sbind_some, e, sbind_some]
      by_cases hr : r < 0
      · rw [sif_t hr]; exact ⟨-1, rfl, by omega, by omega, fun h => by omega⟩
      · rw [sif_f hr, wi64_add1 (by omega)]
        obtain ⟨r2, e2, a2, b2, c2⟩ := ih (i + 1) r (by omega) (by omega) b
        refine ⟨r2, e2, a2, b2, fun h m hm => ?_⟩
        rw [List.drop_eq_getElem_cons hlt] at hm
        rcases List.mem_cons.1 hm with rfl | hm
        · exact c (by omega)
        · exact c2 h m hm
  rw [laws_szMappingS_eq, wi64_id (by omega) (by omega)]
  by_cases c : left - (L.length : Int) < 0
  · rw [sif_t c]; exact ⟨-1, rfl, by omega, by omega, fun h => by omega⟩
  · rw [sif_f c]
    obtain ⟨r, e, a, b, c⟩ := key L.length 0 (left - (L.length : Int)) (by omega) (by omega) (by omega)
    exact ⟨r, e, a, b, fun h m hm => c h m (by rw [List.drop_zero]; exact hm)⟩
theorem szVt_bound (t : Ty_Type) (D : List Int) (b : ByteArray) (M : List MapK) (h : OkA_Virtual (t, D, b, M)) (left : Int) (h0 : 0 ≤ left) (h1 : left ≤ 1048576) :
    ∃ r, laws_szVirtual t.f_Kind t.f_Size t.f_Signed t.f_Big t.f_Names t.f_Nums t.f_Members t.f_Base t.f_Count D b M left = some r ∧ r ≤ 1048576 ∧ (0 ≤ r → b.size ≤ 1048576 ∧ ∀ m ∈ M, m.1.size ≤ 1048576) := by
  obtain ⟨hok, hD, hb, hM⟩ := h
  dsimp only at hok hD hb hM
  rw [laws_szVirtual_eq]
  obtain ⟨r1, e1, a1, b1⟩ := szType_a t hok left h0 h1
  rw [e1, sbind_some]
  by_cases c1 : r1 < 0
  · rw [sif_t c1]; exact ⟨_, rfl, by omega, fun h => by omega⟩
  rw [sif_f c1]
  obtain ⟨r2, e2, a2, b2⟩ := szInt64S_a D hD r1 (by omega) b1
  rw [e2, sbind_some]
  by_cases c2 : r2 < 0
  · rw [sif_t c2]; exact ⟨_, rfl, by omega, fun h => by omega⟩
  rw [sif_f c2, wi64_id (by omega) (by omega)]
  by_cases c3 : r2 - (b.size : Int) < 0
  · rw [sif_t c3]; exact ⟨_, rfl, by omega, fun h => by omega⟩
  rw [sif_f c3]
  obtain ⟨r3, e3, a3, b3, d3⟩ := szMaps_bound M (len_bound hM.2.1 (by decide)) hM.2.2 (r2 - (b.size : Int)) (by omega) (by omega)
  rw [e3, sbind_some]
  by_cases c4 : r3 < 0
  · rw [sif_t c4]; exact ⟨_, rfl, by omega, fun h => by omega⟩
  rw [sif_f c4]
  exact ⟨r3, rfl, b3, fun h => ⟨by omega, d3 h⟩⟩
/-! FnExactSourcePaths -/
def ptM : List MapK → List ByteArray → List ByteArray
  | [], out => out
  | m :: r, out => if out.any (fun t => seq m.1 t) then ptM r out else ptM r (out ++ [m.1])
theorem ptM_len : ∀ (l : List MapK) (out : List ByteArray), (ptM l out).length ≤ out.length + l.length
  | [], out => by simp [ptM]
  | m :: r, out => by
    rw [ptM]
    split
    · have := ptM_len r out; rw [List.length_cons]; omega
    · have := ptM_len r (out ++ [m.1]); rw [List.length_append] at this; rw [List.length_cons]; simp at this; omega
theorem ptM_mem : ∀ (l : List MapK) (out : List ByteArray) (x : ByteArray), x ∈ ptM l out → x ∈ out ∨ ∃ m ∈ l, x = m.1
  | [], out, x, h => Or.inl h
  | m :: r, out, x, h => by
    rw [ptM] at h
    split at h
    · rcases ptM_mem r out x h with h | ⟨q, hq, e⟩
      · exact Or.inl h
      · exact Or.inr ⟨q, List.mem_cons_of_mem _ hq, e⟩
    · rcases ptM_mem r _ x h with h | ⟨q, hq, e⟩
      · rcases List.mem_append.1 h with h | h
        · exact Or.inl h
        · exact Or.inr ⟨m, List.mem_cons_self, by simpa using h⟩
      · exact Or.inr ⟨q, List.mem_cons_of_mem _ hq, e⟩
theorem any_all_not {α : Type} (p : α → Bool) : ∀ l : List α, (!(l.all fun y => !p y)) = l.any p
  | [] => rfl
  | x :: r => by rw [List.all_cons, List.any_cons, ← any_all_not p r]; cases p x <;> simp
theorem sp_has_some (l : List ByteArray) (x : ByteArray) (hl : l.length ≤ 140737488351232) : spec_l24Has l x = some (l.any fun y => seq x y) := by
  rw [spec_l24Has_eq]
  have k := all_loop l (fun y => !(seq y x)) (fun i => spec_l24Has_l2 l x (i : Int)) true (fun i y hy hi => by
    show spec_l24Has_l2 l x (i : Int) = _
    rw [spec_l24Has_l2_eq, sif_t (by omega), idx_some hy, sbind_some, sif_not, wi64_add1 (by omega)])
  refine k.trans ?_
  show sif _ (spec_l24Has_l2 l x (l.length : Int)) _ = _
  rw [spec_l24Has_l2_eq, sif_f (by omega), sif_some]
  have e : (fun y => seq x y) = fun y => seq y x := by
    funext y; rw [seq_eqB, seq_eqB, Bool.eq_iff_iff, eqB_iff, eqB_iff]; exact eq_comm
  rw [e, ← any_all_not]
  cases l.all (fun y => !seq y x) <;> rfl
theorem spec_paths_l (t : Ty_Type) (D : List Int) (b : ByteArray) (M : List MapK) (hM : M.length ≤ 6) : ∀ (n i : Nat) (out : List ByteArray), M.length = i + n → out.length ≤ i →
    spec_SourcePaths_l5 i t.f_Kind t.f_Size t.f_Signed t.f_Big t.f_Names t.f_Nums t.f_Members t.f_Base t.f_Count D b M out = some (ptM (M.drop i) out) := by
  intro n
  induction n with
  | zero =>
    intro i out hi ho
    obtain rfl : i = M.length := by omega
    rw [spec_SourcePaths_l5_eq, sif_f (by omega), List.drop_length, ptM]
  | succ n ih =>
    intro i out hi ho
    have hlt : i < M.length := by omega
    have hx : M[i]? = some M[i] := List.getElem?_eq_getElem hlt
    rw [spec_SourcePaths_l5_eq, sif_t (by omega), idx_some hx, sbind_some, sp_has_some _ _ (by omega), sbind_some, wi64_add1 (by omega), List.drop_eq_getElem_cons hlt, ptM, sbind_some, sif_pos (room_ok (by omega)), ih (i + 1) _ (by omega) (by rw [List.length_append]; simp; omega), ih (i + 1) out (by omega) (by omega)]
    cases out.any (fun y => seq M[i].1 y) <;> rfl
theorem impl_paths_l (M : List MapK) (hM : M.length ≤ 6) : ∀ (n i : Nat) (out : List ByteArray), M.length = i + n → out.length ≤ i →
    impl_Virtual_paths_l3 M (M.length : Int) i out = some (ptM (M.drop i) out) := by
  intro n
  induction n with
  | zero =>
    intro i out hi ho
    obtain rfl : i = M.length := by omega
    rw [impl_Virtual_paths_l3_eq, sif_f (by omega), List.drop_length, ptM]
  | succ n ih =>
    intro i out hi ho
    have hlt : i < M.length := by omega
    have hx : M[i]? = some M[i] := List.getElem?_eq_getElem hlt
    rw [impl_Virtual_paths_l3_eq, sif_t (by omega), idx_some hx, sbind_some, impl_hasS_some _ _ (by omega), sbind_some, wi64_add1 (by omega), List.drop_eq_getElem_cons hlt, ptM, sif_pos (room_ok (by omega)), ih (i + 1) _ (by omega) (by rw [List.length_append]; simp; omega), ih (i + 1) out (by omega) (by omega)]
    cases out.any (fun y => seq M[i].1 y) <;> rfl
noncomputable def spM (t : Ty_Type) (D : List Int) (b : ByteArray) (M : List MapK) : List ByteArray := if vtM t D b M then ptM M [] else []
theorem vtM_six {t : Ty_Type} {D : List Int} {b : ByteArray} {M : List MapK} (h : vtM t D b M = true) : M.length ≤ 6 := by
  unfold vtM at h
  simp only [Bool.and_eq_true, decide_eq_true_eq] at h
  omega
theorem spM_spec (t : Ty_Type) (hok : Ok_Ty_Type t) (D : List Int) (b : ByteArray) (hb : b.size ≤ 1048576) (M : List MapK) (hM : ∀ m ∈ M, m.1.size ≤ 1048576) :
    spec_SourcePaths t.f_Kind t.f_Size t.f_Signed t.f_Big t.f_Names t.f_Nums t.f_Members t.f_Base t.f_Count D b M = some (spM t D b M) := by
  rw [spec_SourcePaths_eq, spec_vt_some t hok D b hb M hM, sbind_some, spM]
  cases h : vtM t D b M with
  | false => rfl
  | true => exact (spec_paths_l t D b M (vtM_six h) M.length 0 [] (by omega) (by simp))
theorem spM_impl (t : Ty_Type) (hok : Ok_Ty_Type t) (D : List Int) (b : ByteArray) (hb : b.size ≤ 1048576) (M : List MapK) (hM : ∀ m ∈ M, m.1.size ≤ 1048576) (hL : ∀ m ∈ M, mapLen m) :
    impl_SourcePaths t.f_Kind t.f_Size t.f_Signed t.f_Big t.f_Names t.f_Nums t.f_Members t.f_Base t.f_Count D b M = some (spM t D b M) := by
  rw [impl_SourcePaths_eq, impl_vt_some t hok D b hb M hM hL, sbind_some, spM]
  cases h : vtM t D b M with
  | false => rfl
  | true =>
    show sbind (impl_Virtual_paths _ _ _ _ _ _ _ _ _ _ _ _) _ = _
    rw [impl_Virtual_paths_eq, show impl_Virtual_paths_l3 M (M.length : Int) 0 [] = _ from impl_paths_l M (vtM_six h) M.length 0 [] (by omega) (by simp)]
    rfl
theorem spM_ok (t : Ty_Type) (D : List Int) (b : ByteArray) (M : List MapK) (hM : ∀ m ∈ M, m.1.size ≤ 1048576) : (spM t D b M).length ≤ 6 ∧ ∀ x ∈ spM t D b M, x.size ≤ 140737488351232 := by
  unfold spM
  cases h : vtM t D b M with
  | false => exact ⟨by simp, fun x hx => by simp at hx⟩
  | true =>
    refine ⟨?_, fun x hx => ?_⟩
    · have := ptM_len M []
      have := vtM_six h
      simp at *
      omega
    · rcases ptM_mem M [] x hx with hx | ⟨m, hm, rfl⟩
      · cases hx
      · have := hM m hm; omega
theorem sp_main (t : Ty_Type) (D : List Int) (b : ByteArray) (M : List MapK) (h : OkA_Virtual (t, D, b, M)) :
    laws_FnExactSourcePaths t.f_Kind t.f_Size t.f_Signed t.f_Big t.f_Names t.f_Nums t.f_Members t.f_Base t.f_Count D b M = some true := by
  have hok : Ok_Ty_Type t := h.1
  rw [laws_FnExactSourcePaths_eq]
  obtain ⟨r1, h1, _, h3⟩ := szVt_bound t D b M h 1048576 (by decide) (by decide)
  rw [h1, sbind_some]
  by_cases hr : r1 < 0
  · rw [sif_t hr]
  · rw [sif_f hr]
    obtain ⟨hb, hM⟩ := h3 (by omega)
    have t0 := toVirtual_a (t, D, b, M) h
    dsimp only at t0
    have q0 := eqVirtual_a (t, D, b, M) h
    dsimp only at q0
    have hL : ∀ m ∈ M, mapLen m := fun m hm => okA_map (h.2.2.2.2.2 m hm)
    obtain ⟨hn, hs⟩ := spM_ok t D b M hM
    obtain ⟨c, hc, hm⟩ := mkFStringS (spM t D b M) (by omega)
    obtain ⟨y, m1, _, m2⟩ := hm 1 (by omega) (by omega)
    have m2 : laws_heldStringS y 1 = some (1 + (c : Int)) := m2
    obtain ⟨c2, mv, zv⟩ := mkVirtual_x (t, D, b, M) h
    have zz := (zv 1048576 r1 (by decide) (by decide) h1 (by omega)).2
    obtain ⟨y2, v1, _⟩ := mv 1 (by omega) (by omega)
    dsimp only at v1
    have qs := eqStringS_a (spM t D b M) ⟨Nat.le_trans hn (by decide), by omega, hs⟩
    simp only [t0, sbind_some, spM_spec t hok D b hb M hM, spM_impl t hok D b hb M hM hL, q0, qs, v1, m1, m2, bne_self_eq_false, sif_false, beq_self_eq_true, Bool.not_true]
    rw [sif_f (by omega), sif_f (by omega), sif_f (by omega)]
theorem pure_FnExactSourcePaths (aV_Type_Kind : Int) (aV_Type_Size : Int) (aV_Type_Signed : Bool) (aV_Type_Big : Bool) (aV_Type_Names : List ByteArray) (aV_Type_Nums : List Int) (aV_Type_Members : List (ByteArray × Int × Ty_Type)) (aV_Type_Base : List Ty_Type) (aV_Type_Count : Int) (aV_Dims : List Int) (aV_Fill : ByteArray) (aV_Maps : List (ByteArray × Int × List Int × List Int × List Int × List Int × List (List Int) × Int × List Int × List Int × List Int × List Int × List (List Int))) (O0 : ((Lit.int .i64 aV_Type_Kind).wf = true) ∧ ((Lit.int .i64 aV_Type_Size).wf = true) ∧ (True) ∧ (True) ∧ (aV_Type_Names.length ≤ maxLen ∧ aV_Type_Names.length * 16 ≤ 140737488351232 ∧ ∀ e__ ∈ aV_Type_Names, e__.size ≤ 140737488351232) ∧ (aV_Type_Nums.length ≤ maxLen ∧ aV_Type_Nums.length * 8 ≤ 140737488351232 ∧ ∀ e__ ∈ aV_Type_Nums, (Lit.int .i64 e__).wf = true) ∧ (aV_Type_Members.length ≤ maxLen ∧ aV_Type_Members.length * 152 ≤ 140737488351232 ∧ ∀ e__ ∈ aV_Type_Members, (e__.1.size ≤ 140737488351232) ∧ ((Lit.int .i64 e__.2.1).wf = true) ∧ (Ok_Ty_Type e__.2.2)) ∧ (aV_Type_Base.length ≤ maxLen ∧ aV_Type_Base.length * 128 ≤ 140737488351232 ∧ ∀ e__ ∈ aV_Type_Base, Ok_Ty_Type e__) ∧ ((Lit.int .i64 aV_Type_Count).wf = true) ∧ (aV_Dims.length ≤ maxLen ∧ aV_Dims.length * 8 ≤ 140737488351232 ∧ ∀ e_ ∈ aV_Dims, (Lit.int .i64 e_).wf = true) ∧ (aV_Fill.size ≤ 140737488351232) ∧ (aV_Maps.length ≤ maxLen ∧ aV_Maps.length * 272 ≤ 140737488351232 ∧ ∀ e_ ∈ aV_Maps, (e_.1.size ≤ 140737488351232) ∧ ((Lit.int .i64 e_.2.1).wf = true) ∧ (e_.2.2.1.length ≤ maxLen ∧ e_.2.2.1.length * 8 ≤ 140737488351232 ∧ ∀ e__ ∈ e_.2.2.1, (Lit.int .i64 e__).wf = true) ∧ (e_.2.2.2.1.length ≤ maxLen ∧ e_.2.2.2.1.length * 8 ≤ 140737488351232 ∧ ∀ e__ ∈ e_.2.2.2.1, (Lit.int .i64 e__).wf = true) ∧ (e_.2.2.2.2.1.length ≤ maxLen ∧ e_.2.2.2.2.1.length * 8 ≤ 140737488351232 ∧ ∀ e__ ∈ e_.2.2.2.2.1, (Lit.int .i64 e__).wf = true) ∧ (e_.2.2.2.2.2.1.length ≤ maxLen ∧ e_.2.2.2.2.2.1.length * 8 ≤ 140737488351232 ∧ ∀ e__ ∈ e_.2.2.2.2.2.1, (Lit.int .i64 e__).wf = true) ∧ (e_.2.2.2.2.2.2.1.length ≤ maxLen ∧ e_.2.2.2.2.2.2.1.length * 24 ≤ 140737488351232 ∧ ∀ e__ ∈ e_.2.2.2.2.2.2.1, e__.length ≤ maxLen ∧ e__.length * 8 ≤ 140737488351232 ∧ ∀ e___ ∈ e__, (Lit.int .i64 e___).wf = true) ∧ ((Lit.int .i64 e_.2.2.2.2.2.2.2.1).wf = true) ∧ (e_.2.2.2.2.2.2.2.2.1.length ≤ maxLen ∧ e_.2.2.2.2.2.2.2.2.1.length * 8 ≤ 140737488351232 ∧ ∀ e__ ∈ e_.2.2.2.2.2.2.2.2.1, (Lit.int .i64 e__).wf = true) ∧ (e_.2.2.2.2.2.2.2.2.2.1.length ≤ maxLen ∧ e_.2.2.2.2.2.2.2.2.2.1.length * 8 ≤ 140737488351232 ∧ ∀ e__ ∈ e_.2.2.2.2.2.2.2.2.2.1, (Lit.int .i64 e__).wf = true) ∧ (e_.2.2.2.2.2.2.2.2.2.2.1.length ≤ maxLen ∧ e_.2.2.2.2.2.2.2.2.2.2.1.length * 8 ≤ 140737488351232 ∧ ∀ e__ ∈ e_.2.2.2.2.2.2.2.2.2.2.1, (Lit.int .i64 e__).wf = true) ∧ (e_.2.2.2.2.2.2.2.2.2.2.2.1.length ≤ maxLen ∧ e_.2.2.2.2.2.2.2.2.2.2.2.1.length * 8 ≤ 140737488351232 ∧ ∀ e__ ∈ e_.2.2.2.2.2.2.2.2.2.2.2.1, (Lit.int .i64 e__).wf = true) ∧ (e_.2.2.2.2.2.2.2.2.2.2.2.2.length ≤ maxLen ∧ e_.2.2.2.2.2.2.2.2.2.2.2.2.length * 24 ≤ 140737488351232 ∧ ∀ e__ ∈ e_.2.2.2.2.2.2.2.2.2.2.2.2, e__.length ≤ maxLen ∧ e__.length * 8 ≤ 140737488351232 ∧ ∀ e___ ∈ e__, (Lit.int .i64 e___).wf = true))) : laws_FnExactSourcePaths aV_Type_Kind aV_Type_Size aV_Type_Signed aV_Type_Big aV_Type_Names aV_Type_Nums aV_Type_Members aV_Type_Base aV_Type_Count aV_Dims aV_Fill aV_Maps = some true := sp_main (Ty_Type.mk aV_Type_Kind aV_Type_Size aV_Type_Signed aV_Type_Big aV_Type_Names aV_Type_Nums aV_Type_Members aV_Type_Base aV_Type_Count) aV_Dims aV_Fill aV_Maps ⟨Ok_Ty_Type.mk _ ⟨O0.1, O0.2.1, O0.2.2.1, O0.2.2.2.1, O0.2.2.2.2.1, O0.2.2.2.2.2.1, O0.2.2.2.2.2.2.1, O0.2.2.2.2.2.2.2.1, O0.2.2.2.2.2.2.2.2.1⟩, O0.2.2.2.2.2.2.2.2.2.1, O0.2.2.2.2.2.2.2.2.2.2.1, O0.2.2.2.2.2.2.2.2.2.2.2⟩
end Go.Ve.X
