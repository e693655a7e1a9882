/- What 'FnExactValidOp' comes to, in plain words over numbers, texts and lists: each function that it reaches answers what is told; put together, the law answers true. No condition but the sizes that come in. -/
import Derived.Test.YtaijkhkgjedkaaaGreatDoorPuaFnExactValidOp
namespace Go.Ve.X
open Go.Ve
set_option linter.all false
set_option maxRecDepth 100000
theorem Qrh {α R : Type} (l : List α) (F : Int → Int → List α → Option R) (r : List α → Option R) (hend : ∀ (i j : Int) s, ¬ i < j → F i j s = r s)
    (hstep : ∀ (i j : Int) s x y, i < j → 0 ≤ i → j < l.length → s.length = l.length → s[j.toNat]? = some x → s[i.toNat]? = some y → F i j s = F (i + 1) (j - 1) ((s.set i.toNat x).set j.toNat y)) :
    ∀ (n i : Nat) (s : List α), l.length - 2 * i ≤ n → 2 * i ≤ l.length + 1 → s.length = l.length → (∀ k, k < l.length → s[k]? = if k < i ∨ l.length - i ≤ k then l[l.length - 1 - k]? else l[k]?) →
    F i ((l.length : Int) - 1 - i) s = r l.reverse := by
  intro n
  induction n with
  | zero =>
    intro i s hn hi hs hk
    rw [hend _ _ _ (by omega)]
    congr 1
    refine List.ext_getElem? (fun k => ?_)
    rcases Nat.lt_or_ge k l.length with h | h
    · rw [hk k h, List.getElem?_reverse h]
      split
      · rfl
      · congr 1; omega
    · rw [List.getElem?_eq_none (by omega), List.getElem?_eq_none (by simpa using h)]
  | succ n ih =>
    intro i s hn hi hs hk
    by_cases h : (i : Int) < (l.length : Int) - 1 - i
    · have hj : ((l.length : Int) - 1 - i).toNat = l.length - 1 - i := by omega
      have hi2 : ((i : Int)).toNat = i := by omega
      have h1 : l.length - 1 - i < s.length := by omega
      have h2 : i < s.length := by omega
      rw [hstep i _ s s[l.length - 1 - i] s[i] h (by omega) (by omega) hs (by rw [hj]; exact List.getElem?_eq_getElem h1) (by rw [hi2]; exact List.getElem?_eq_getElem h2)]
      have e1 := ih (i + 1) ((s.set i s[l.length - 1 - i]).set (l.length - 1 - i) s[i]) (by omega) (by omega) (by simp [hs]) (fun k hkl => by
        have g1 := hk (l.length - 1 - i) (by omega)
        have g2 := hk i (by omega)
        rw [List.getElem?_eq_getElem h1, if_neg (by omega)] at g1
        rw [List.getElem?_eq_getElem h2, if_neg (by omega)] at g2
        rw [List.getElem?_set, List.getElem?_set]
        by_cases ha : l.length - 1 - i = k
        · subst ha
          rw [if_pos rfl, if_pos (by simp; omega), if_pos (by omega), show l.length - 1 - (l.length - 1 - i) = i by omega, g2]
        · rw [if_neg ha]
          by_cases hb : i = k
          · subst hb
            rw [if_pos rfl, if_pos (by omega), if_pos (by omega), g1]
          · rw [if_neg hb, hk k hkl]
            by_cases hc : k < i ∨ l.length - i ≤ k
            · rw [if_pos hc, if_pos (by omega)]
            · rw [if_neg hc, if_neg (by omega)])
      rw [hj, hi2]
      have e2 : ((i : Int) + 1) = ((i + 1 : Nat) : Int) := by omega
      have e3 : ((l.length : Int) - 1 - i - 1) = (l.length : Int) - 1 - ((i + 1 : Nat) : Int) := by omega
      rw [e2, e3]; exact e1
    · rw [hend _ _ _ h]
      congr 1
      refine List.ext_getElem? (fun k => ?_)
      rcases Nat.lt_or_ge k l.length with h' | h'
      · rw [hk k h', List.getElem?_reverse h']
        split
        · rfl
        · congr 1; omega
      · rw [List.getElem?_eq_none (by omega), List.getElem?_eq_none (by simpa using h')]
theorem Qqn {α R : Type} (l : List α) (F : Int → Int → List α → Option R) (r : List α → Option R) (hend : ∀ (i j : Int) s, ¬ i < j → F i j s = r s)
    (hstep : ∀ (i j : Int) s x y, i < j → 0 ≤ i → j < l.length → s.length = l.length → s[j.toNat]? = some x → s[i.toNat]? = some y → F i j s = F (i + 1) (j - 1) ((s.set i.toNat x).set j.toNat y)) : F 0 ((l.length : Int) - 1) l = r l.reverse := by
  have := Qrh l F r hend hstep l.length 0 l (by omega) (by omega) rfl (fun k hk => by rw [if_neg (by omega)])
  simpa using this
/-! bitsL -/
theorem Qb8 (m : List Int) (hm : inB m) (h8 : m.length ≤ 8) : Q5u (toB m) = some (leN m) := by
  rw [QhK, Qz]
  have := QiX m.length (fun i n => Q6y (toB m) n (m.length : Int) (i : Int)) (fun _ _ => some (leN m)) (fun i n => n = leN (m.take i)) (fun n hn => by
      rw [QaR, Qi (by omega), hn, List.take_length])
    (fun i n hi hn ih => by
      have hb := hm _ (List.getElem_mem hi)
      have h0 := Qfb (QbV hm i)
      have h1 := Qfo (QbV hm i)
      rw [List.length_take, show min i m.length = i by omega] at h1
      rw [QaR, Qj (by omega), Q6O hm (by omega), Int.toNat_natCast, List.getElem?_eq_getElem hi, Q0, Qi (by rw [Qq (by omega) (by omega)]; omega), QrF (by omega) (by omega) (by omega) hb.1 hb.2, Qh (by omega)]
      refine ih _ ?_
      rw [hn, List.take_succ_eq_append_getElem hi, Qhv, List.length_take, show min i m.length = i by omega]
      simp [leN]) 0 0 (by omega) rfl
  simpa using this
/-! numL -/
/-! numbers out of bytes -/
theorem QgX (n : Int) : wi64 n % 18446744073709551616 = n % 18446744073709551616 := by
  rw [Q5S]; split <;> omega
theorem Qmk {a b : Int} (h : a % 18446744073709551616 = b % 18446744073709551616) : wi64 a = wi64 b := by
  rw [Q5S, Q5S, h]
theorem or8 (n b : Int) (b0 : 0 ≤ b) (b1 : b ≤ 255) : bits .or .i64 (wi64 (n * 2 ^ 8)) (wi64 b) = wi64 (n * 256 + b) := by
  have e : bits .or .i64 (wi64 (n * 2 ^ 8)) (wi64 b) = wi64 (((BitVec.ofInt 64 (wi64 (n * 2 ^ 8))) ||| (BitVec.ofInt 64 (wi64 b))).toNat : Int) := rfl
  rw [e, BitVec.toNat_or, BitVec.toNat_ofInt, BitVec.toNat_ofInt, show ((2 ^ 64 : Nat) : Int) = 18446744073709551616 by rfl, QgX, QgX, show n * 2 ^ 8 = n * 256 by rfl]
  have hb : (b % 18446744073709551616).toNat = b.toNat := by omega
  obtain ⟨m, hm⟩ : ∃ m : Nat, (n * 256 % 18446744073709551616).toNat = m * 2 ^ 8 := ⟨(n * 256 % 18446744073709551616).toNat / 256, by omega⟩
  rw [hb, hm, Nat.or_comm, QpG (by omega)]
  refine Qmk ?_
  have hm' : ((m * 2 ^ 8 : Nat) : Int) = n * 256 % 18446744073709551616 := by rw [← hm]; omega
  have : ((b.toNat + m * 2 ^ 8 : Nat) : Int) = b + n * 256 % 18446744073709551616 := by rw [Int.natCast_add, hm']; omega
  rw [this]
  omega
theorem QqI (N b : Int) : wi64 (wi64 N * 256 + b) = wi64 (N * 256 + b) := by
  have := QgX N
  refine Qmk ?_
  omega
/-- the bytes, the least first -/
def ordL (g : Bool) (l : List Int) : List Int := if g = true then l.reverse else l
theorem QnX {g : Bool} {l : List Int} {x : Int} (h : x ∈ ordL g l) : x ∈ l := by
  unfold ordL at h
  split at h
  · simpa using h
  · exact h
theorem QjI (g : Bool) (l : List Int) : (ordL g l).length = l.length := by
  unfold ordL; split
  · exact List.length_reverse
  · rfl
theorem QpP {g : Bool} {l : List Int} (h : inB l) : inB (ordL g l) := fun x hx => h x (QnX hx)
def hfS (s : Int) : Int := if s = 1 then 128 else if s = 2 then 32768 else if s = 4 then 2147483648 else 9223372036854775808
def sgn (s : Int) (g : Bool) (U : Int) : Int := if g = true then (if hfS s ≤ U then U - 2 * hfS s else U) else U
theorem QkF (l : List Int) (hl : inB l) (hn : l.length ≤ 24) (k s : Int) (g b : Bool) (N : List ByteArray) (M : List Int) (E : List (ByteArray × Int × Q7)) (B : List Q7) (c : Int) :
    ∀ j (i : Nat), l.length = i + j → Q0V (toB l) (wi64 (leN ((ordL b l).drop j))) (i : Int) k s g b N M E B c = Q0V (toB l) (wi64 (leN (ordL b l))) (l.length : Int) k s g b N M E B c := by
  intro j
  induction j with
  | zero => intro i hi; rw [List.drop_zero, show i = l.length by omega]
  | succ j ih =>
    intro i hi
    have hlt : i < l.length := by omega
    have hj : j < (ordL b l).length := by rw [QjI]; omega
    have hg : (ordL b l)[j]? = some ((ordL b l)[j]) := List.getElem?_eq_getElem hj
    have hmem : (ordL b l)[j] ∈ l := QnX (List.getElem_mem hj)
    have hb := hl _ hmem
    have step : Q0V (toB l) (wi64 (leN ((ordL b l).drop (j + 1)))) (i : Int) k s g b N M E B c = Q0V (toB l) (bits .or .i64 (wi64 (wi64 (leN ((ordL b l).drop (j + 1))) * 2 ^ 8)) (wi64 ((ordL b l)[j]))) ((i + 1 : Nat) : Int) k s g b N M E B c := by
      rw [Q98, Qz, Qj (by omega), Qh (by omega)]
      cases b with
      | true =>
        have e : bidx (toB l) (i : Int) = some ((ordL true l)[j]) := by
          rw [Q6O hl (by omega), Int.toNat_natCast, ← hg]
          show l[i]? = (l.reverse)[j]?
          rw [List.getElem?_reverse (by omega)]; congr 1; omega
        rw [Qf, e, Q0]
      | false =>
        have e : bidx (toB l) (wi64 ((wi64 ((l.length : Int) - 1)) - (i : Int))) = some ((ordL false l)[j]) := by
          rw [Qq (n := (l.length : Int) - 1) (by omega) (by omega), Qq (by omega) (by omega), Q6O hl (by omega), ← hg]
          show l[((l.length : Int) - 1 - i).toNat]? = l[j]?
          congr 1; omega
        rw [Qb, e, Q0]
    rw [step, or8 _ _ hb.1 hb.2, QqI, ← ih (i + 1) (by omega)]
    congr 2
    rw [List.drop_eq_getElem_cons hj, leN]
    omega
theorem QnS {g : Bool} {l : List Int} (hl : inB l) : 0 ≤ leN (ordL g l) ∧ leN (ordL g l) < 256 ^ l.length := ⟨Qfb (QpP hl), by have := Qfo (QpP (g := g) hl); rwa [QjI] at this⟩
theorem QkZ (k s : Int) (g b : Bool) (N : List ByteArray) (M : List Int) (E : List (ByteArray × Int × Q7)) (B : List Q7) (c : Int) (l : List Int) (hl : inB l) (hi : iOk s g b = true) (hs : (l.length : Int) = s) : Q7x k s g b N M E B c (toB l) = some (sgn s g (leN (ordL b l))) := by
  obtain ⟨h1, h2⟩ := Qfc hi
  have hU := QnS (g := b) hl
  have lp := QkF l hl (by omega) k s g b N M E B c l.length 0 (by omega)
  rw [List.drop_eq_nil_of_le (by rw [QjI]; omega)] at lp
  rw [QfT]
  refine (show Q0V (toB l) 0 0 k s g b N M E B c = _ from lp).trans ?_
  generalize leN (ordL b l) = U at hU
  rw [Q98, Qz, Qi (by omega)]
  unfold sgn hfS
  rcases h1 with rfl | rfl | rfl | rfl
  · have e : l.length = 1 := by omega
    rw [e] at hU
    have hU2 : U < 256 := hU.2
    rw [Qq (n := U) (by omega) (by omega)]
    cases g with
    | false => rfl
    | true =>
      rw [Qf]
      show sif (decide (U ≥ 128)) (some (wi64 (U - 256))) (some U) = _
      rw [Qq (n := U - 256) (by omega) (by omega), Q52]
      simp only [decide_eq_true_eq, if_true, ge_iff_le]; congr 1
  · have e : l.length = 2 := by omega
    rw [e] at hU
    have hU2 : U < 65536 := hU.2
    rw [Qq (n := U) (by omega) (by omega)]
    cases g with
    | false => rfl
    | true =>
      rw [Qf]
      show sif (decide (U ≥ 32768)) (some (wi64 (U - 65536))) (some U) = _
      rw [Qq (n := U - 65536) (by omega) (by omega), Q52]
      simp only [decide_eq_true_eq, if_true, ge_iff_le]; congr 1
  · have e : l.length = 4 := by omega
    rw [e] at hU
    have hU2 : U < 4294967296 := hU.2
    rw [Qq (n := U) (by omega) (by omega)]
    cases g with
    | false => rfl
    | true =>
      rw [Qf]
      show sif (decide (U ≥ 2147483648)) (some (wi64 (U - 4294967296))) (some U) = _
      rw [Qq (n := U - 4294967296) (by omega) (by omega), Q52]
      simp only [decide_eq_true_eq, if_true, ge_iff_le]; congr 1
  · have e : l.length = 8 := by omega
    rw [e] at hU
    have hU2 : U < 18446744073709551616 := hU.2
    obtain rfl : g = true := by rcases h2 with h | h; exact h; omega
    rw [Qf]
    show some (wi64 U) = some (if true = true then (if 9223372036854775808 ≤ U then U - 2 * 9223372036854775808 else U) else U)
    rw [if_pos rfl, Q5S, show U % 18446744073709551616 = U by omega]
    rfl
theorem Qkw (l : List Int) (hl : inB l) (hn : l.length ≤ 1048576) : Q7N (toB l) = some (toB l.reverse) := by
  rw [Qe6, Q6j hl, Q9q]
  have k := Qqn l (fun i j s => Q1w i j s) (fun s => some s) (fun i j s h => by rw [Q3U, Qi h]) (fun i j s x y h1 h2 h3 h4 hx hy => by
    rw [Q3U, Qj h1, Qe (Q4U (by omega) (by omega)), hx, Q0, Qe (Q4U (by omega) (by omega)), hy, Q0, Qe (Q4U (by omega) (by omega)), Qe (Q4U (by omega) (by rw [List.length_set]; omega)), Qq (by omega) (by omega), Qq (by omega) (by omega)])
  rw [Qq (by omega) (by omega)]
  refine (congrArg (fun z => sbind z fun r1 => some (toB r1)) k).trans ?_
  rfl
/-! numM -/
theorem Qhd (s : Int) (l : List Int) (hl : inB l) (hs : (l.length : Int) = s) (h1 : s = 1 ∨ s = 2 ∨ s = 4 ∨ s = 8) : Q7U (toB l) = some (sgn s true (leN l)) := by
  have h0 := Qfb hl
  have hU := Qfo hl
  rw [Qjo, Qb8 l hl (by omega), Q0, Qz, hs]
  generalize leN l = U at h0 hU
  unfold sgn hfS
  rcases h1 with rfl | rfl | rfl | rfl
  · have e : l.length = 1 := by omega
    rw [e] at hU
    have hU2 : U < 256 := hU
    show some (Int.fdiv (wi64 (wu64 (U * 72057594037927936))) 72057594037927936) = some (if true = true then (if 128 ≤ U then U - 2 * 128 else U) else U)
    rw [if_pos rfl, Q8G (by omega) (by omega), Q5S, Int.fdiv_eq_ediv_of_nonneg _ (by decide)]
    congr 1
    split <;> split <;> omega
  · have e : l.length = 2 := by omega
    rw [e] at hU
    have hU2 : U < 65536 := hU
    show some (Int.fdiv (wi64 (wu64 (U * 281474976710656))) 281474976710656) = some (if true = true then (if 32768 ≤ U then U - 2 * 32768 else U) else U)
    rw [if_pos rfl, Q8G (by omega) (by omega), Q5S, Int.fdiv_eq_ediv_of_nonneg _ (by decide)]
    congr 1
    split <;> split <;> omega
  · have e : l.length = 4 := by omega
    rw [e] at hU
    have hU2 : U < 4294967296 := hU
    show some (Int.fdiv (wi64 (wu64 (U * 4294967296))) 4294967296) = some (if true = true then (if 2147483648 ≤ U then U - 2 * 2147483648 else U) else U)
    rw [if_pos rfl, Q8G (by omega) (by omega), Q5S, Int.fdiv_eq_ediv_of_nonneg _ (by decide)]
    congr 1
    split <;> split <;> omega
  · have e : l.length = 8 := by omega
    rw [e] at hU
    have hU2 : U < 18446744073709551616 := hU
    show some (Int.fdiv (wi64 (wu64 (U * 1))) 1) = some (if true = true then (if 9223372036854775808 ≤ U then U - 2 * 9223372036854775808 else U) else U)
    rw [if_pos rfl, Q8G (by omega) (by omega), Q5S, Int.fdiv_eq_ediv_of_nonneg _ (by decide)]
    congr 1
    split <;> split <;> omega
theorem Ql3 (k s : Int) (g b : Bool) (N : List ByteArray) (M : List Int) (E : List (ByteArray × Int × Q7)) (B : List Q7) (c : Int) (hk : k ≠ 3) (l : List Int) (hl : inB l) (hi : iOk s g b = true) (hs : (l.length : Int) = s) : Q3b k s g b N M E B c (toB l) = some (sgn s g (leN (ordL b l))) := by
  obtain ⟨h1, h2⟩ := Qfc hi
  have hU := QnS (g := b) hl
  rw [Q9L, kbne hk, Qb]
  have core : ∀ m : List Int, inB m → m.length = l.length → (sif g (sbind (Q7U (toB m)) fun r2 => some r2) (sbind (Q5u (toB m)) fun r2 => some (wi64 r2))) = some (sgn s g (leN m)) := fun m hm hml => by
    have h0 := Qfb hm
    have h3 := Qfo hm
    cases g with
    | true => rw [Qf, Qhd s m hm (by omega) h1, Q0]
    | false =>
      have h4 : s < 8 := by rcases h2 with h | h; cases h; exact h
      have : leN m < 4294967296 := by
        have hp : (256 : Int) ^ m.length ≤ 256 ^ 4 := by
          have : (256 : Nat) ^ m.length ≤ 256 ^ 4 := Nat.pow_le_pow_right (by decide) (by omega)
          exact_mod_cast this
        omega
      rw [Qb, Qb8 m hm (by omega), Q0, Qq (by omega) (by omega)]; rfl
  cases b with
  | true =>
    rw [Qf, Qkw l hl (by omega), Q0]
    exact core l.reverse (fun x hx => hl x (by simpa using hx)) List.length_reverse
  | false => exact core l hl rfl
/-! eltA -/
/-! zeros at the end -/
def tzL (l : List Int) : List Int := (l.reverse.dropWhile (· == 0)).reverse
theorem Qme (x : Int) (r : List Int) : tzL (x :: r) = if tzL r = [] then (if x = 0 then [] else [x]) else x :: tzL r := by
  unfold tzL
  rw [List.reverse_cons, List.dropWhile_append]
  cases h : r.reverse.dropWhile (· == 0) with
  | nil =>
    show (List.dropWhile (fun x => x == 0) [x]).reverse = if x = 0 then [] else [x]
    by_cases hx : x = 0
    · subst hx; rfl
    · rw [if_neg hx, List.dropWhile_cons_of_neg (by simpa using hx)]; rfl
  | cons y q =>
    rw [if_neg (by simp), if_neg (by simp), List.reverse_append]; rfl
theorem Qjk : ∀ l : List Int, decide (tzL l = []) = l.all (· == 0)
  | [] => rfl
  | x :: r => by
    rw [Qme, List.all_cons, ← Qjk r]
    by_cases h : tzL r = []
    · rw [if_pos h, decide_eq_true h]
      by_cases hx : x = 0
      · subst hx; rfl
      · rw [if_neg hx, decide_eq_false (by simp)]; simp [hx]
    · rw [if_neg h, decide_eq_false h, decide_eq_false (by simp), Bool.and_false]
def txR : Bool → List Int → Bool
  | _, [] => true
  | e, x :: r => if e = true then (if x = 0 then txR true r else false) else txR (x == 0) r
theorem Qmj : ∀ l : List Int, txR true l = l.all (· == 0)
  | [] => rfl
  | x :: r => by
    rw [txR, if_pos rfl, List.all_cons, Qmj r]
    by_cases hx : x = 0
    · rw [if_pos hx, kbeq hx, Bool.true_and]
    · rw [if_neg hx, kbne hx, Bool.false_and]
theorem Qk9 : ∀ l : List Int, txR false l = !(tzL l).any (· == 0)
  | [] => rfl
  | x :: r => by
    rw [txR, if_neg Bool.false_ne_true, Qme]
    by_cases hx : x = 0
    · rw [kbeq hx, Qmj, ← Qjk]
      by_cases h : tzL r = []
      · rw [if_pos h, if_pos hx, decide_eq_true h]; rfl
      · rw [if_neg h, decide_eq_false h, List.any_cons, kbeq hx]; rfl
    · rw [kbne hx, Qk9 r]
      by_cases h : tzL r = []
      · rw [if_pos h, if_neg hx, h, List.any_cons, kbne hx]; rfl
      · rw [if_neg h, List.any_cons, kbne hx, Bool.false_or]
theorem Qkd (f : Int → UInt8) : ∀ (l : List Int), (∀ x ∈ l, (f x == 0) = (x == 0)) → (l.map f).dropWhile (· == 0) = (l.dropWhile (· == 0)).map f
  | [], _ => rfl
  | x :: r, h => by
    have hx := h x (by simp)
    rw [List.map_cons, List.dropWhile_cons, List.dropWhile_cons, hx]
    split
    · exact Qkd f r (fun y hy => h y (by simp [hy]))
    · rfl
theorem byte_zero {x : Int} (h : 0 ≤ x ∧ x ≤ 255) : ((UInt8.ofNat x.toNat : UInt8) == 0) = (x == 0) := by
  rw [Bool.eq_iff_iff, beq_iff_eq, beq_iff_eq]
  constructor
  · intro e
    have := congrArg UInt8.toNat e
    rw [UInt8.toNat_ofNat'] at this
    have z : (0 : UInt8).toNat = 0 := rfl
    rw [z] at this
    omega
  · intro e; subst e; rfl
theorem Qr8 {l : List Int} (h : inB l) : inB (tzL l) := fun x hx => by
  unfold tzL at hx
  exact h x (by simpa using (List.dropWhile_sublist _).subset (List.mem_reverse.1 hx))
theorem Qbi (l : List Int) (hl : inB l) (hn : l.length ≤ 1048576) : Q8M (toB l) = some (toB (tzL l)) := by
  rw [Qhz, Qeg]
  have h1 : oneB (bs [0]) = some 0 := rfl
  have e : QaS (toB l) (bs [0]) = some (toB (tzL l)) := by
    unfold QaS
    rw [h1]
    dsimp only
    rw [if_pos ⟨by decide, by rw [show (toB l).size = l.length by have := Qz l; omega]; omega⟩]
    congr 1
    show (⟨(Lib.trimRightB (l.map fun n : Int => UInt8.ofNat n.toNat) 0).toArray⟩ : ByteArray) = (⟨((tzL l).map fun n : Int => UInt8.ofNat n.toNat).toArray⟩ : ByteArray)
    unfold Lib.trimRightB tzL
    rw [← List.map_reverse, Qkd _ _ (fun x hx => byte_zero (hl x (by simpa using hx))), ← List.map_reverse]
  rw [e, Q0]
theorem Qlt : ∀ (l : List UInt8) (c : UInt8), decide (0 ≤ Lib.indexByte l c) = l.any (· == c)
  | [], _ => rfl
  | b :: l, c => by
    have ih := Qlt l c
    have hg := Lib.indexByte_ge l c
    rw [List.any_cons, Lib.indexByte, ← ih]
    cases b == c with
    | true => rfl
    | false =>
      rw [if_neg Bool.false_ne_true, Bool.false_or]
      by_cases h : Lib.indexByte l c = -1
      · rw [if_pos (by rw [beq_iff_eq]; exact h), h]
      · rw [if_neg (by rw [beq_iff_eq]; exact h), decide_eq_decide]; omega
theorem Qj8 (l : List Int) (hl : inB l) : strings_Contains (toB l) (bs [0]) = some (l.any (· == 0)) := by
  rw [QeQ]
  have h1 : oneB (bs [0]) = some 0 := rfl
  unfold Q6U
  rw [h1]
  dsimp only
  have e : (toB l).data.toList = l.map fun n : Int => UInt8.ofNat n.toNat := by simp [toB]
  rw [e, Qlt, List.any_map]
  congr 1
  clear e
  induction l with
  | nil => rfl
  | cons x r ih =>
    rw [List.any_cons, List.any_cons, ih (fun y hy => hl y (by simp [hy])), ← byte_zero (hl x (by simp))]
    rfl
theorem Qjg (l : List Int) (hl : inB l) (hn : l.length ≤ 1048576) : QbI (toB l) = some (!(tzL l).any (· == 0)) := by
  rw [QhI, ← Qk9]
  have key : ∀ n (i : Nat) (e : Bool), l.length = i + n → Q2J (toB l) e (i : Int) = some (txR e (l.drop i)) := by
    intro n
    induction n with
    | zero => intro i e hi; rw [Qay, Qz, Qi (by omega), List.drop_eq_nil_of_le (by omega)]; cases e <;> rfl
    | succ n ih =>
      intro i e hi
      have hlt : i < l.length := by omega
      have hb : bidx (toB l) (i : Int) = some l[i] := by rw [Q6O hl (by omega), Int.toNat_natCast, List.getElem?_eq_getElem hlt]
      rw [Qay, Qz, Qj (by omega), hb, Q0, Q0, List.drop_eq_getElem_cons hlt, txR, Qh (by omega)]
      cases e with
      | false => rw [Qb, Qb, if_neg Bool.false_ne_true, ih (i + 1) _ (by omega)]
      | true =>
        rw [Qf, if_pos rfl, Qf, ih (i + 1) _ (by omega)]
        by_cases hx : l[i] = 0
        · rw [if_pos hx, Q1K (by rw [bne_eq_false_iff_eq]; exact hx)]
        · rw [if_neg hx, Qe (by rw [bne_iff_ne]; exact hx)]
  exact key l.length 0 false (by omega)
/-! eltB -/
/-! elements -/
def sl (l : List Int) (a b : Nat) : List Int := (l.take b).drop a
def zB (l : List Int) : Bool := l.all (· == 0)
def gpM (l : List Int) (size : Int) : Int → List (ByteArray × Int × Q7) → Bool
  | at_, [] => zB (sl l at_.toNat size.toNat)
  | at_, m :: r => zB (sl l at_.toNat m.2.1.toNat) && gpM l size (m.2.1 + szT m.2.2) r
def enE (M : List Int) (l : List Int) : List Q7 → Bool
  | [x] => M.any fun y => y == sgn x.Q8 x.Q2 (leN (ordL x.Qa l))
  | _ => false
def arE (e : Q7 → List Int → Bool) (c : Int) (l : List Int) : List Q7 → Bool
  | [x] => (List.range c.toNat).all fun i => e x (sl l (i * (szT x).toNat) ((i + 1) * (szT x).toNat))
  | _ => false
def eT : Nat → Q7 → List Int → Bool
  | 0, _, _ => false
  | d + 1, t, l => ((l.length : Int) == szT t) && (if t.Q3 = 2 then !(tzL l).any (· == 0) else if t.Q3 = 3 then enE t.Q9 l t.Q6
      else if t.Q3 = 4 then gpM l t.Q8 0 t.Q1 && t.Q1.all (fun m => eT d m.2.2 (sl l m.2.1.toNat (m.2.1 + szT m.2.2).toNat)) else if t.Q3 = 5 then arE (eT d) t.Q4 l t.Q6 else true)
theorem QbS (l : List Int) (i j : Nat) : (toB l).extract i j = toB (sl l i j) := Qgv l i j
theorem Qld {l : List Int} (h : inB l) (a b : Nat) : inB (sl l a b) := Qej (QbV h b) a
theorem QpQ {l : List Int} {a b : Nat} (h : b ≤ l.length) : (sl l a b).length = b - a := by unfold sl; rw [List.length_drop, List.length_take]; omega
theorem Qre {l : List Int} {a b : Nat} (h : a < b) (hb : b ≤ l.length) : sl l a b = (l[a]'(by omega)) :: sl l (a + 1) b := by
  unfold sl
  rw [List.drop_eq_getElem_cons (by rw [List.length_take]; omega), List.getElem_take]
theorem Qs1 {l : List Int} {a b : Nat} (h : b ≤ a) : sl l a b = [] := by
  unfold sl; exact List.drop_eq_nil_of_le (by rw [List.length_take]; omega)
theorem Qdq (l : List Int) (hl : inB l) (hn : l.length ≤ 1048576) (i to_ : Int) (k s : Int) (g b : Bool) (N : List ByteArray) (M : List Int) (E : List (ByteArray × Int × Q7)) (B : List Q7) (c : Int) (hto : to_ ≤ l.length) :
    ∀ (n a : Nat), to_ = (a : Int) + n → Q22 (toB l) (a : Int) i to_ k s g b N M E B c = sif (zB (sl l a to_.toNat)) (Q22 (toB l) to_ i to_ k s g b N M E B c) (some false) := by
  intro n
  induction n with
  | zero => intro a ha; rw [Qs1 (by omega), show (a : Int) = to_ by omega]; rfl
  | succ n ih =>
    intro a ha
    have hlt : a < l.length := by omega
    have hb : bidx (toB l) (a : Int) = some l[a] := by rw [Q6O hl (by omega), Int.toNat_natCast, List.getElem?_eq_getElem hlt]
    rw [Q4Y, Qj (by omega), hb, Q0, Qh (by omega), ih (a + 1) (by omega), Qre (l := l) (a := a) (b := to_.toNat) (by omega) (by omega)]
    show sif (!(l[a] == 0)) _ _ = sif ((l[a] == 0) && zB (sl l (a + 1) to_.toNat)) _ _
    cases l[a] == 0 <;> rfl
def cmM (e : Q7 → List Int → Bool) (l : List Int) (size : Int) : Int → List (ByteArray × Int × Q7) → Bool
  | at_, [] => zB (sl l at_.toNat size.toNat)
  | at_, m :: r => zB (sl l at_.toNat m.2.1.toNat) && (e m.2.2 (sl l m.2.1.toNat (m.2.1 + szT m.2.2).toNat) && cmM e l size (m.2.1 + szT m.2.2) r)
theorem QoS (e : Q7 → List Int → Bool) (l : List Int) (size : Int) : ∀ (E : List (ByteArray × Int × Q7)) (a : Int), cmM e l size a E = (gpM l size a E && E.all fun m => e m.2.2 (sl l m.2.1.toNat (m.2.1 + szT m.2.2).toNat))
  | [], a => by rw [List.all_nil, Bool.and_true]; rfl
  | m :: r, a => by
    rw [cmM, gpM, QoS e l size r, List.all_cons]
    cases zB (sl l a.toNat m.2.1.toNat) <;> cases e m.2.2 (sl l m.2.1.toNat (m.2.1 + szT m.2.2).toNat) <;> cases gpM l size (m.2.1 + szT m.2.2) r <;> rfl
theorem Qf7 (d : Nat) (ih : ∀ t l, vT d t = true → inB l → l.length ≤ 1048576 → Q3g t.Q3 t.Q8 t.Q2 t.Qa t.Q5 t.Q9 t.Q1 t.Q6 t.Q4 (toB l) = some (eT d t l)) (l : List Int) (hl : inB l) (hn : l.length ≤ 1048576) (k s : Int) (g b : Bool) (N : List ByteArray) (M : List Int) (E : List (ByteArray × Int × Q7)) (B : List Q7) (c : Int) (hs : (l.length : Int) = s) :
    ∀ (r : List (ByteArray × Int × Q7)) (i : Nat) (a : Int), E.drop i = r → E.length = i + r.length → E.length ≤ 4 → 0 ≤ a → cpM (vT d) a r s = true → Q28 (toB l) a (i : Int) k s g b N M E B c = some (cmM (eT d) l s a r)
  | [], i, a, hr, hi, hE, h0, hv => by
    have hv : decide (a ≤ s) = true := hv
    rw [decide_eq_true_eq] at hv
    have hi : E.length = i := hi
    rw [Q4X, Qj (by omega), Qi (by omega)]
    have z := Qdq l hl hn (i : Int) s k s g b N M E B c (by omega) (s - a).toNat a.toNat (by omega)
    rw [show ((a.toNat : Nat) : Int) = a by omega] at z
    rw [z, Q4Y (toB l) s, Qi (by omega), Qi (by omega), Qh (by omega), Q4X, Qi (by omega), Q52]
    show _ = some (zB (sl l a.toNat s.toNat))
    cases zB (sl l a.toNat s.toNat) <;> rfl
  | m :: r, i, a, hr, hi, hE, h0, hv => by
    simp only [cpM, Bool.and_eq_true, Bool.not_eq_true', decide_eq_false_iff_not] at hv
    obtain ⟨v1, v2, v3, v4⟩ := hv
    have hz := Q0Q v1
    have hi : E.length = i + (r.length + 1) := hi
    have hlt : i < E.length := by omega
    have hm : E[i]? = some m := by rw [← List.head?_drop, hr]; rfl
    have hle : m.2.1 + szT m.2.2 ≤ s := by
      have key : ∀ (q : List (ByteArray × Int × Q7)) (e : Int), cpM (vT d) e q s = true → e ≤ s := by
        intro q
        induction q with
        | nil => intro e h; simpa [cpM] using h
        | cons y q ihq =>
          intro e h
          simp only [cpM, Bool.and_eq_true, Bool.not_eq_true', decide_eq_false_iff_not] at h
          have := ihq _ h.2.2.2
          have := Q0Q h.1
          omega
      exact key r _ v4
    have hnext := Qf7 d ih l hl hn k s g b N M E B c hs r (i + 1) (m.2.1 + szT m.2.2) (by rw [← List.drop_drop, hr]; rfl) (by omega) hE (by omega) v4
    have z := Qdq l hl hn (i : Int) m.2.1 k s g b N M E B c (by omega) (m.2.1 - a).toNat a.toNat (by omega)
    rw [show ((a.toNat : Nat) : Int) = a by omega] at z
    rw [Q4X, Qj (by omega), Qj (by omega), Qg hm, Q0, z, Q4Y (toB l) m.2.1, Qi (by omega), Qj (by omega), Qg hm, Q0, Q1j v1, Q0, Q0, Qq (n := m.2.1 + szT m.2.2) (by omega) (by omega), Qz, Qe (Q0n (by omega) (by omega)), Qe (Q0n (by omega) (by omega)), QbS, ih _ _ v1 (Qld hl _ _) (by have := QpQ (l := l) (a := m.2.1.toNat) (b := (m.2.1 + szT m.2.2).toNat) (by omega); omega), Q0, Qh (by omega), hnext]
    show _ = some (zB (sl l a.toNat m.2.1.toNat) && (eT d m.2.2 (sl l m.2.1.toNat (m.2.1 + szT m.2.2).toNat) && cmM (eT d) l s (m.2.1 + szT m.2.2) r))
    show sif _ (sif (!eT d m.2.2 (sl l m.2.1.toNat (m.2.1 + szT m.2.2).toNat)) _ _) _ = _
    cases zB (sl l a.toNat m.2.1.toNat) <;> cases eT d m.2.2 (sl l m.2.1.toNat (m.2.1 + szT m.2.2).toNat) <;> rfl
/-! eltC -/
theorem QhP {c z : Int} {n : Nat} (hc : 1 ≤ c ∧ c ≤ 4) (hz : 1 ≤ z ∧ z ≤ 24) (hn : (n : Int) = c * z) {i : Nat} (hi : i < c.toNat) : (i : Int) * z = ((i * z.toNat : Nat) : Int) ∧ ((i : Int) + 1) * z = (((i + 1) * z.toNat : Nat) : Int) ∧ i * z.toNat ≤ (i + 1) * z.toNat ∧ (i + 1) * z.toNat ≤ n ∧ (i + 1) * z.toNat ≤ 96 := by
  have hzn : (z.toNat : Int) = z := by omega
  have e1 : (i : Int) * z = ((i * z.toNat : Nat) : Int) := by rw [Int.natCast_mul, hzn]
  have e2 : ((i : Int) + 1) * z = (((i + 1) * z.toNat : Nat) : Int) := by rw [Int.natCast_mul, hzn]; rfl
  have e3 : (i + 1) * z.toNat ≤ c.toNat * z.toNat := Nat.mul_le_mul_right _ (by omega)
  have e4 : ((c.toNat * z.toNat : Nat) : Int) = c * z := by rw [Int.natCast_mul, hzn, show (c.toNat : Int) = c by omega]
  have e5 : c.toNat * z.toNat ≤ 4 * 24 := Nat.mul_le_mul (by omega) (by omega)
  exact ⟨e1, e2, Nat.mul_le_mul_right _ (by omega), by omega, by omega⟩
theorem QkX (d : Nat) (ih : ∀ t l, vT d t = true → inB l → l.length ≤ 1048576 → Q3g t.Q3 t.Q8 t.Q2 t.Qa t.Q5 t.Q9 t.Q1 t.Q6 t.Q4 (toB l) = some (eT d t l)) (l : List Int) (hl : inB l) (hn : l.length ≤ 1048576) (x : Q7) (hx : vT d x = true) (k s : Int) (g b : Bool) (N : List ByteArray) (M : List Int) (E : List (ByteArray × Int × Q7)) (B : List Q7) (c : Int) (hB : B = [x]) (hc : 1 ≤ c ∧ c ≤ 4) (hs : (l.length : Int) = c * szT x) :
    Q34 (toB l) (szT x) 0 k s g b N M E B c = some (arE (eT d) c l [x]) := by
  have hz := Q0Q hx
  have k0 := Q0s (List.range c.toNat) (fun i => eT d x (sl l (i * (szT x).toNat) ((i + 1) * (szT x).toNat))) (fun i => Q34 (toB l) (szT x) (i : Int) k s g b N M E B c) false (fun i y hy hi => by
    rw [List.length_range] at hi
    rw [List.getElem?_range hi, Option.some.injEq] at hy
    subst hy
    obtain ⟨b1, b2, b3, b4, b5⟩ := QhP hc hz hs hi
    show Q34 (toB l) (szT x) (i : Int) k s g b N M E B c = _
    rw [Qbh, Qj (by omega), hB]
    show sif _ (sif _ (sbind (Q3g x.Q3 x.Q8 x.Q2 x.Qa x.Q5 x.Q9 x.Q1 x.Q6 x.Q4 _) _) _) _ = _
    rw [Qq (n := (i : Int) + 1) (by omega) (by omega), b1, b2, Qq (n := ((i * (szT x).toNat : Nat) : Int)) (by omega) (by omega), Qq (n := (((i + 1) * (szT x).toNat : Nat) : Int)) (by omega) (by omega), Qz, Qe (Q0n (by omega) (by omega)), Qe (Q0n (by omega) (by omega)), Int.toNat_natCast, Int.toNat_natCast, QbS, ih _ _ hx (Qld hl _ _) (by rw [QpQ b4]; omega), Q0, Q1Q]
    rfl)
  refine k0.trans ?_
  show sif _ (Q34 (toB l) (szT x) ((List.range c.toNat).length : Nat) k s g b N M E B c) _ = _
  rw [List.length_range, Qbh, Qi (by omega), Q52]
  show _ = some ((List.range c.toNat).all _)
  cases (List.range c.toNat).all fun i => eT d x (sl l (i * (szT x).toNat) ((i + 1) * (szT x).toNat)) <;> rfl
theorem Qo1 {N : List ByteArray} {M : List Int} {x : Q7} (h : enM N M x = true) : M.length ≤ 6 := by
  unfold enM at h
  simp only [Bool.and_eq_true, Q0j] at h
  omega
theorem QpB {t x : Q7} (hk : t.Q3 = 3) (hx : t.Q6 = [x]) : szT t = x.Q8 := by rw [QdJ, if_pos hk, hx]
theorem QpF {t x : Q7} (hk : t.Q3 = 5) (hx : t.Q6 = [x]) : szT t = t.Q4 * szT x := by rw [QdJ, if_neg (by omega), if_pos hk, hx]
theorem Qr4 {t : Q7} (h3 : t.Q3 ≠ 3) (h5 : t.Q3 ≠ 5) : szT t = t.Q8 := by rw [QdJ, if_neg h3, if_neg h5]
theorem QnU (d : Nat) (t : Q7) (l : List Int) : eT (d + 1) t l = (((l.length : Int) == szT t) && (if t.Q3 = 2 then !(tzL l).any (· == 0) else if t.Q3 = 3 then enE t.Q9 l t.Q6
      else if t.Q3 = 4 then gpM l t.Q8 0 t.Q1 && t.Q1.all (fun m => eT d m.2.2 (sl l m.2.1.toNat (m.2.1 + szT m.2.2).toNat)) else if t.Q3 = 5 then arE (eT d) t.Q4 l t.Q6 else true)) := rfl
theorem Q83 : ∀ (d : Nat) (t : Q7) (l : List Int), vT d t = true → inB l → l.length ≤ 1048576 → Q3g t.Q3 t.Q8 t.Q2 t.Qa t.Q5 t.Q9 t.Q1 t.Q6 t.Q4 (toB l) = some (eT d t l)
  | 0, _, _, h, _, _ => by cases h
  | d + 1, t, l, h, hl, hn => by
    have ih := Q83 d
    rw [QkV, Q1j h, Q0, Qz, QnU]
    by_cases hs : (l.length : Int) = szT t
    · rw [Q1K (by rw [bne_eq_false_iff_eq]; exact hs), kbeq hs, Bool.true_and]
      rcases Q5D h with ⟨hk, h1⟩ | ⟨hk, h1⟩ | ⟨hk, x, hx, h1⟩ | ⟨hk, h1, h2, h3⟩ | ⟨hk, h1, x, hx, h2, h3⟩ | ⟨hk, h1⟩
      · rw [hk]; rfl
      · rw [if_pos hk, kbeq hk, Qf, Qjg l hl hn, Q0]
      · rw [if_neg (by omega), if_pos hk, kbne (show t.Q3 ≠ 2 by omega), kbeq hk, Qb, Qf, hx]
        have hi := Q9R h1
        have hz := QgI hi.2
        have hM := Qo1 h1
        show sbind (Q7x x.Q3 x.Q8 x.Q2 x.Qa x.Q5 x.Q9 x.Q1 x.Q6 x.Q4 (toB l)) _ = _
        rw [QkZ _ _ _ _ _ _ _ _ _ l hl hi.2 (by rw [hs, QpB hk hx]), Q0, Qey _ _ (by omega), Q0]
        rfl
      · rw [if_neg (by omega), if_neg (by omega), if_pos hk, kbne (show t.Q3 ≠ 2 by omega), kbne (show t.Q3 ≠ 3 by omega), kbeq hk, Qb, Qb, Qf, QeC]
        have lp := Qf7 d ih l hl hn t.Q3 t.Q8 t.Q2 t.Qa t.Q5 t.Q9 t.Q1 t.Q6 t.Q4 (by rw [hs, Qr4 (by omega) (by omega)]) t.Q1 0 0 rfl (by omega) (by omega) (by omega) h3
        rw [show Q28 (toB l) 0 0 t.Q3 t.Q8 t.Q2 t.Qa t.Q5 t.Q9 t.Q1 t.Q6 t.Q4 = _ from lp, Q0, QoS]
      · rw [if_neg (by omega), if_neg (by omega), if_neg (by omega), if_pos hk, kbne (show t.Q3 ≠ 2 by omega), kbne (show t.Q3 ≠ 3 by omega), kbne (show t.Q3 ≠ 4 by omega), kbeq hk, Qb, Qb, Qb, Qf, hx]
        show sbind (Q0D x.Q3 x.Q8 x.Q2 x.Qa x.Q5 x.Q9 x.Q1 x.Q6 x.Q4) _ = _
        rw [Q1j h2, Q0, QkX d ih l hl hn x h2 _ _ _ _ _ _ _ _ _ rfl h1 (by rw [hs, QpF hk hx])]
      · rw [hk]; rfl
    · rw [Qe (by rw [bne_iff_ne]; exact hs), kbne hs, Bool.false_and]
/-! eltD -/
/-! the gaps, the program's way -/
def clM (l : List Int) (m : ByteArray × Int × Q7) : List Int := l.take m.2.1.toNat ++ (List.replicate ((m.2.1 + szT m.2.2).toNat - m.2.1.toNat) (0 : Int) ++ l.drop (m.2.1.toNat + (List.replicate ((m.2.1 + szT m.2.2).toNat - m.2.1.toNat) (0 : Int)).length))
def clr : List Int → List (ByteArray × Int × Q7) → List Int
  | l, [] => l
  | l, m :: r => clr (clM l m) r
theorem QfD {v : Q7 → Bool} (hv : ∀ t, v t = true → 1 ≤ szT t) {s : Int} : ∀ {q : List (ByteArray × Int × Q7)} {e : Int}, cpM v e q s = true → e ≤ s
  | [], e, h => by simpa [cpM] using h
  | y :: q, e, h => by
    simp only [cpM, Bool.and_eq_true, Bool.not_eq_true', decide_eq_false_iff_not] at h
    have h1 := QfD hv h.2.2.2
    have h2 := hv _ h.1
    omega
theorem QnN {l : List Int} {m : ByteArray × Int × Q7} (h0 : 0 ≤ m.2.1) (hz : 1 ≤ szT m.2.2) (h : m.2.1 + szT m.2.2 ≤ l.length) : (clM l m).length = l.length := by
  unfold clM
  rw [List.length_append, List.length_append, List.length_take, List.length_replicate, List.length_drop]
  omega
theorem QrZ {l : List Int} {m : ByteArray × Int × Q7} (h : inB l) : inB (clM l m) := by
  intro x hx
  unfold clM at hx
  rcases List.mem_append.1 hx with hx | hx
  · exact h x (List.mem_of_mem_take hx)
  · rcases List.mem_append.1 hx with hx | hx
    · rw [(List.mem_replicate.1 hx).2]; omega
    · exact h x (List.mem_of_mem_drop hx)
theorem QeW (a b : List Int) : zB (a ++ b) = (zB a && zB b) := List.all_append
theorem QdL (l : List Int) (a b : Nat) : sl l a b = (l.drop a).take (b - a) := List.drop_take
theorem Qkb (v : Q7 → Bool) (hv : ∀ t, v t = true → 1 ≤ szT t) (l l' : List Int) (s : Int) : ∀ (r : List (ByteArray × Int × Q7)) (a : Int), 0 ≤ a → cpM v a r s = true → l.drop a.toNat = l'.drop a.toNat → gpM l s a r = gpM l' s a r
  | [], a, _, _, h => by show zB (sl l _ _) = zB (sl l' _ _); rw [QdL, QdL, h]
  | m :: r, a, h0, hc, h => by
    simp only [cpM, Bool.and_eq_true, Bool.not_eq_true', decide_eq_false_iff_not] at hc
    have hz := hv _ hc.1
    rw [gpM, gpM, QdL, QdL, h, Qkb v hv l l' s r (m.2.1 + szT m.2.2) (by omega) hc.2.2.2 (by
      have e : (m.2.1 + szT m.2.2).toNat = a.toNat + ((m.2.1 + szT m.2.2).toNat - a.toNat) := by omega
      rw [e, ← List.drop_drop, ← List.drop_drop, h])]
theorem QmH (v : Q7 → Bool) (hv : ∀ t, v t = true → 1 ≤ szT t) (s : Int) : ∀ (r : List (ByteArray × Int × Q7)) (a : Int) (l : List Int), 0 ≤ a → cpM v a r s = true → (l.length : Int) = s → zB (clr l r) = (zB (l.take a.toNat) && gpM l s a r)
  | [], a, l, h0, hc, hl => by
    show zB l = (zB (l.take a.toNat) && zB (sl l a.toNat s.toNat))
    rw [← QeW]
    congr 1
    unfold sl
    rw [List.take_of_length_le (by omega : l.length ≤ s.toNat), List.take_append_drop]
  | m :: r, a, l, h0, hc, hl => by
    have hc' := hc
    simp only [cpM, Bool.and_eq_true, Bool.not_eq_true', decide_eq_false_iff_not] at hc
    have hz := hv _ hc.1
    have hle := QfD hv hc.2.2.2
    have hlen := QnN (l := l) (m := m) (by omega) hz (by omega)
    show zB (clr (clM l m) r) = _
    rw [QmH v hv s r (m.2.1 + szT m.2.2) (clM l m) (by omega) hc.2.2.2 (by omega), gpM, ← Bool.and_assoc]
    have e1 : (clM l m).take (m.2.1 + szT m.2.2).toNat = l.take m.2.1.toNat ++ List.replicate ((m.2.1 + szT m.2.2).toNat - m.2.1.toNat) (0 : Int) := by
      unfold clM
      rw [← List.append_assoc, List.take_append_of_le_length (by rw [List.length_append, List.length_take, List.length_replicate]; omega), List.take_of_length_le (by rw [List.length_append, List.length_take, List.length_replicate]; omega)]
    have e2 : (clM l m).drop (m.2.1 + szT m.2.2).toNat = l.drop (m.2.1 + szT m.2.2).toNat := by
      unfold clM
      rw [← List.append_assoc, List.length_replicate, List.drop_append_of_le_length (by rw [List.length_append, List.length_take, List.length_replicate]; omega), List.drop_eq_nil_of_le (by rw [List.length_append, List.length_take, List.length_replicate]; omega), List.nil_append]
      congr 1; omega
    have e3 : zB (List.replicate ((m.2.1 + szT m.2.2).toNat - m.2.1.toNat) (0 : Int)) = true := by
      unfold zB; rw [List.all_eq_true]; intro x hx; rw [(List.mem_replicate.1 hx).2]; rfl
    have e4 : zB (l.take m.2.1.toNat) = (zB (l.take a.toNat) && zB (sl l a.toNat m.2.1.toNat)) := by
      rw [← QeW]
      congr 1
      have := List.take_append_drop a.toNat (l.take m.2.1.toNat)
      rw [List.take_take, Nat.min_eq_left (by omega)] at this
      exact this.symm
    rw [e1, QeW, e3, Bool.and_true, e4, Qkb v hv (clM l m) l s r (m.2.1 + szT m.2.2) (by omega) hc.2.2.2 e2]
theorem Qdv (d : Nat) (E : List (ByteArray × Int × Q7)) (hE : E.length ≤ 4) (s : Int) (hs : s ≤ 24) :
    ∀ (r : List (ByteArray × Int × Q7)) (i : Nat) (a : Int) (l : List Int), E.drop i = r → E.length = i + r.length → 0 ≤ a → cpM (vT d) a r s = true → (l.length : Int) = s → inB l → Q2Z E (E.length : Int) (i : Int) l = some (zB (clr l r))
  | [], i, a, l, hr, hi, h0, hc, hl, hb => by
    have hi : E.length = i := hi
    rw [Q7X, Qi (by omega), Qbi l hb (by omega), Q0]
    have e : seq (toB (tzL l)) (bs []) = decide (tzL l = []) := Qrm (a := tzL l) (b := []) (Qr8 hb) (fun x hx => by cases hx)
    rw [e, Qjk]; rfl
  | m :: r, i, a, l, hr, hi, h0, hc, hl, hb => by
    have hc' := hc
    simp only [cpM, Bool.and_eq_true, Bool.not_eq_true', decide_eq_false_iff_not] at hc
    have hz := Q0Q hc.1
    have hle := QfD (fun t h => (Q0Q h).1) hc.2.2.2
    have hi : E.length = i + (r.length + 1) := hi
    have hm : E[i]? = some m := by rw [← List.head?_drop, hr]; rfl
    have hlen := QnN (l := l) (m := m) (by omega) hz.1 (by omega)
    have ih := Qdv d E hE s hs r (i + 1) (m.2.1 + szT m.2.2) (clM l m) (by rw [← List.drop_drop, hr]; rfl) (by omega) (by omega) hc.2.2.2 (by omega) (QrZ hb)
    rw [Q7X, Qj (by omega), Qg hm, Q0, Q1T hc.1, Q0, Qq (n := m.2.1 + szT m.2.2) (by omega) (by omega), Qe (Q0n (by omega) (by omega)), Qe (Q0n (by omega) (by omega)), Qh (by omega)]
    exact ih
/-! the parts -/
theorem QnL {n : Nat} (h : n ≤ 100) : room n 144 = true := by
  unfold room
  exact Nat.ble_eq_true_of_le (by omega)
def QoE (l : List Int) (m : ByteArray × Int × Q7) : Q7 × ByteArray := (m.2.2, toB (sl l m.2.1.toNat (m.2.1 + szT m.2.2).toNat))
theorem Qcy (d : Nat) (l : List Int) (E : List (ByteArray × Int × Q7)) (hE : E.length ≤ 4) (s : Int) (hs : s ≤ 24) (hl : (l.length : Int) = s) :
    ∀ (r : List (ByteArray × Int × Q7)) (i : Nat) (a : Int) (out : List (Q7 × ByteArray)), E.drop i = r → E.length = i + r.length → 0 ≤ a → cpM (vT d) a r s = true → out.length ≤ 10 + i → Q3i (toB l) E (E.length : Int) (i : Int) out = some (out ++ r.map (QoE l))
  | [], i, a, out, hr, hi, h0, hc, ho => by
    have hi : E.length = i := hi
    rw [Q8E, Qi (by omega), List.map_nil, List.append_nil]
  | m :: r, i, a, out, hr, hi, h0, hc, ho => by
    simp only [cpM, Bool.and_eq_true, Bool.not_eq_true', decide_eq_false_iff_not] at hc
    have hz := Q0Q hc.1
    have hle := QfD (fun t h => (Q0Q h).1) hc.2.2.2
    have hi : E.length = i + (r.length + 1) := hi
    have hm : E[i]? = some m := by rw [← List.head?_drop, hr]; rfl
    have ih := Qcy d l E hE s hs hl r (i + 1) (m.2.1 + szT m.2.2) (out ++ [QoE l m]) (by rw [← List.drop_drop, hr]; rfl) (by omega) (by omega) hc.2.2.2 (by rw [List.length_append, List.length_singleton]; omega)
    rw [Q8E, Qj (by omega), Qg hm, Q0, Q1T hc.1, Q0, Qq (n := m.2.1 + szT m.2.2) (by omega) (by omega), Qz, Qe (Q0n (by omega) (by omega)), Qe (Q0n (by omega) (by omega)), Qe (QnL (by omega)), Qh (by omega), QbS, Q7.eta]
    refine ih.trans ?_
    rw [List.map_cons, List.append_assoc]; rfl
theorem QiU (l : List Int) (x : Q7) (k s : Int) (g b : Bool) (N : List ByteArray) (M : List Int) (E : List (ByteArray × Int × Q7)) (B : List Q7) (c : Int) (hB : B = [x]) (hz : 1 ≤ szT x ∧ szT x ≤ 24) (hc : 1 ≤ c ∧ c ≤ 4) (hs : (l.length : Int) = c * szT x) :
    ∀ (n i : Nat) (out : List (Q7 × ByteArray)), c.toNat = i + n → out.length ≤ 10 + i → Q23 (toB l) (szT x) c (i : Int) k s g b N M E B c out = some (out ++ ((List.range c.toNat).drop i).map fun i => (x, toB (sl l (i * (szT x).toNat) ((i + 1) * (szT x).toNat)))) := by
  intro n
  induction n with
  | zero =>
    intro i out hi ho
    rw [Q7Y, Qi (by omega), List.drop_eq_nil_of_le (by rw [List.length_range]; omega), List.map_nil, List.append_nil]
  | succ n ih =>
    intro i out hi ho
    obtain ⟨b1, b2, b3, b4, b5⟩ := QhP hc hz hs (i := i) (by omega)
    have ih := ih (i + 1) (out ++ [(x, toB (sl l (i * (szT x).toNat) ((i + 1) * (szT x).toNat)))]) (by omega) (by rw [List.length_append, List.length_singleton]; omega)
    have hx : idx B 0 = some x := by rw [hB]; rfl
    rw [Q7Y, Qj (by omega), hx, Q0, Qq (n := (i : Int) + 1) (by omega) (by omega), b1, b2, Qq (n := ((i * (szT x).toNat : Nat) : Int)) (by omega) (by omega), Qq (n := (((i + 1) * (szT x).toNat : Nat) : Int)) (by omega) (by omega), Qz, Qe (Q0n (by omega) (by omega)), Qe (Q0n (by omega) (by omega)), Qe (QnL (by omega)), Int.toNat_natCast, Int.toNat_natCast, QbS, Q7.eta]
    refine (show Q23 (toB l) (szT x) c ((i : Int) + 1) k s g b N M E B c _ = _ from ih).trans ?_
    rw [List.drop_eq_getElem_cons (show i < (List.range c.toNat).length by rw [List.length_range]; omega), List.map_cons, List.getElem_range, List.append_assoc]; rfl
theorem QcH (d : Nat) (ih : ∀ t l, Qd t → vT d t = true → inB l → l.length ≤ 1048576 → Q0T t.Q3 t.Q8 t.Q2 t.Qa t.Q5 t.Q9 t.Q1 t.Q6 t.Q4 (toB l) = some (eT d t l)) (P : List (Q7 × List Int)) (hP : P.length ≤ 1048576) (h : ∀ p ∈ P, Qd p.1 ∧ vT d p.1 = true ∧ inB p.2 ∧ p.2.length ≤ 1048576) :
    Qp (P.map fun p => (p.1, toB p.2)) = some (!P.all fun p => eT d p.1 p.2) := by
  rw [Q0I, Q0M]
  have e : (P.all fun p => eT d p.1 p.2) = !(P.map fun p => (p.1, toB p.2)).any fun q => !eT d q.1 (ofB q.2) := by
    rw [List.any_map, Q6h]
    refine all_congr_mem (fun p hp => ?_)
    show _ = !!eT d p.1 (ofB (toB p.2))
    rw [Q6j (h p hp).2.2.1, Bool.not_not]
  rw [e, Bool.not_not]
  refine Q5V (Q4M (P.map fun p => (p.1, toB p.2)) (fun q => !eT d q.1 (ofB q.2)) (fun i => QT (P.map fun p => (p.1, toB p.2)) ((P.map fun p => (p.1, toB p.2)).length : Int) i) (by rw [Q06, Qi (by omega)]) (fun i q hq hi => ?_))
  rw [List.length_map] at hi
  obtain ⟨p, hp, rfl⟩ := List.mem_map.1 (List.mem_of_getElem? hq)
  have hh := h p hp
  rw [Q06, Qj (by rw [List.length_map]; omega), Qg hq, Q0, QbR]
  show sbind (sbind (Q0T p.1.Q3 p.1.Q8 p.1.Q2 p.1.Qa p.1.Q5 p.1.Q9 p.1.Q1 p.1.Q6 p.1.Q4 (toB p.2)) _) _ = sif (!eT d p.1 (ofB (toB p.2))) _ _
  rw [ih _ _ hh.1 hh.2.1 hh.2.2.1 hh.2.2.2, Q0, Q0, Q6j hh.2.2.1, Qh (by omega)]
/-! eltE -/
theorem Q6b : ∀ (d : Nat) (t : Q7) (l : List Int), Qd t → vT d t = true → inB l → l.length ≤ 1048576 → Q0T t.Q3 t.Q8 t.Q2 t.Qa t.Q5 t.Q9 t.Q1 t.Q6 t.Q4 (toB l) = some (eT d t l)
  | 0, _, _, _, h, _, _ => by cases h
  | d + 1, t, l, hok, h, hl, hn => by
    obtain ⟨l1, l2, l3, l4, k1, k2⟩ := Q8v hok
    rw [QcX, Q1T h, Q0, Qz, QnU]
    by_cases hs : (l.length : Int) = szT t
    · rw [Q1K (by rw [bne_eq_false_iff_eq]; exact hs), kbeq hs, Bool.true_and]
      have none_ : Qp [] = some false := by
        rw [Q0I, Q0M, Q06]; rfl
      rcases Q5D h with ⟨hk, h1⟩ | ⟨hk, h1⟩ | ⟨hk, x, hx, h1⟩ | ⟨hk, h1, h2, h3⟩ | ⟨hk, h1, x, hx, h2, h3⟩ | ⟨hk, h1⟩
      · rw [kbne (show t.Q3 ≠ 2 by omega), kbne (show t.Q3 ≠ 3 by omega), kbne (show t.Q3 ≠ 4 by omega), Qb, Qb, Qb, Q4L, kbne (show t.Q3 ≠ 4 by omega), kbne (show t.Q3 ≠ 5 by omega), Qb, Qb, Q0, none_, Q0, if_neg (by omega), if_neg (by omega), if_neg (by omega), if_neg (by omega)]; rfl
      · rw [if_pos hk, kbeq hk, Qf, Qbi l hl hn, Q0, Qj8 _ (Qr8 hl), Q0]
      · rw [if_neg (by omega), if_pos hk, kbne (show t.Q3 ≠ 2 by omega), kbeq hk, Qb, Qf, hx]
        have hi := Q9R h1
        have hM := Qo1 h1
        have hnum : Q3b t.Q3 t.Q8 t.Q2 t.Qa t.Q5 t.Q9 t.Q1 [x] t.Q4 (toB l) = some (sgn x.Q8 x.Q2 (leN (ordL x.Qa l))) := by
          rw [Q9L, kbeq hk, Qf]
          show sbind (Q3b x.Q3 x.Q8 x.Q2 x.Qa x.Q5 x.Q9 x.Q1 x.Q6 x.Q4 (toB l)) _ = _
          rw [Ql3 _ _ _ _ _ _ _ _ _ (by omega) l hl hi.2 (by rw [hs, QpB hk hx]), Q0]
        rw [hnum, Q0, Qdf _ _ (by omega), Qmm, Q0]
        rfl
      · have hs2 : (l.length : Int) = t.Q8 := by rw [hs, Qr4 (by omega) (by omega)]
        have g := Qdv d t.Q1 h2.2 t.Q8 (by omega) t.Q1 0 0 l rfl (by omega) (by omega) h3 hs2 hl
        have p := Qcy d l t.Q1 h2.2 t.Q8 (by omega) hs2 t.Q1 0 0 [] rfl (by omega) (by omega) h3 (by simp)
        have cg := QmH (vT d) (fun t h => (Q0Q h).1) t.Q8 t.Q1 0 l (by omega) h3 hs2
        have cm := Q4v h3
        have q : Qp (t.Q1.map (QoE l)) = some (!t.Q1.all fun m => eT d m.2.2 (sl l m.2.1.toNat (m.2.1 + szT m.2.2).toNat)) := by
          have := QcH d (fun t l hok hv hb hn => Q6b d t l hok hv hb hn) (t.Q1.map fun m => (m.2.2, sl l m.2.1.toNat (m.2.1 + szT m.2.2).toNat)) (by rw [List.length_map]; omega) (fun p hp => by
            obtain ⟨m, hm, rfl⟩ := List.mem_map.1 hp
            refine ⟨k1 m hm, cm m hm, Qld hl _ _, ?_⟩
            show (sl l _ _).length ≤ _
            unfold sl
            rw [List.length_drop, List.length_take]; omega)
          rw [List.map_map, List.all_map] at this
          exact this
        rw [if_neg (by omega), if_neg (by omega), if_pos hk, kbne (show t.Q3 ≠ 2 by omega), kbne (show t.Q3 ≠ 3 by omega), kbeq hk, Qb, Qb, Qf, QeP, Q6j hl, show Q2Z t.Q1 (t.Q1.length : Int) 0 l = _ from g, Q0, Q4L, kbeq hk, Qf, show Q3i (toB l) t.Q1 (t.Q1.length : Int) 0 [] = _ from p, Q0, List.nil_append, q, Q0, Bool.not_not, cg]
        show sif (!(zB (l.take 0) && _)) _ _ = _
        rw [List.take_zero]
        show sif (!(true && _)) _ _ = _
        rw [Bool.true_and, Q1Q, Qu]
      · have hs2 : (l.length : Int) = t.Q4 * szT x := by rw [hs, QpF hk hx]
        have hz := Q0Q h2
        have p := QiU l x t.Q3 t.Q8 t.Q2 t.Qa t.Q5 t.Q9 t.Q1 t.Q6 t.Q4 hx hz h1 hs2 t.Q4.toNat 0 [] (by omega) (by simp)
        have hokx := k2 x (by rw [hx]; simp)
        have q : Qp ((List.range t.Q4.toNat).map fun i => (x, toB (sl l (i * (szT x).toNat) ((i + 1) * (szT x).toNat)))) = some (!arE (eT d) t.Q4 l [x]) := by
          have := QcH d (fun t l hok hv hb hn => Q6b d t l hok hv hb hn) ((List.range t.Q4.toNat).map fun i => (x, sl l (i * (szT x).toNat) ((i + 1) * (szT x).toNat))) (by rw [List.length_map, List.length_range]; omega) (fun p hp => by
            obtain ⟨m, hm, rfl⟩ := List.mem_map.1 hp
            refine ⟨hokx, h2, Qld hl _ _, ?_⟩
            show (sl l _ _).length ≤ _
            unfold sl
            rw [List.length_drop, List.length_take]; omega)
          rw [List.map_map, List.all_map] at this
          exact this
        rw [if_neg (by omega), if_neg (by omega), if_neg (by omega), if_pos hk, kbne (show t.Q3 ≠ 2 by omega), kbne (show t.Q3 ≠ 3 by omega), kbne (show t.Q3 ≠ 4 by omega), Qb, Qb, Qb, Q4L, kbne (show t.Q3 ≠ 4 by omega), kbeq hk, Qb, Qf]
        have hi : idx t.Q6 0 = some x := by rw [hx]; rfl
        rw [hi, Q0, Q1T h2, Q0, show Q23 (toB l) (szT x) t.Q4 0 t.Q3 t.Q8 t.Q2 t.Qa t.Q5 t.Q9 t.Q1 t.Q6 t.Q4 [] = _ from p, Q0, List.nil_append, List.drop_zero, q, Q0, Bool.not_not, hx]
      · rw [kbne (show t.Q3 ≠ 2 by omega), kbne (show t.Q3 ≠ 3 by omega), kbne (show t.Q3 ≠ 4 by omega), Qb, Qb, Qb, Q4L, kbne (show t.Q3 ≠ 4 by omega), kbne (show t.Q3 ≠ 5 by omega), Qb, Qb, Q0, none_, Q0, if_neg (by omega), if_neg (by omega), if_neg (by omega), if_neg (by omega)]; rfl
    · rw [Qe (by rw [bne_iff_ne]; exact hs), kbne hs, Bool.false_and]
/-! dimL -/
/-! the dimensions of an array -/
def Q0A : Int → List Int → Int
  | n, [] => n
  | n, d :: r => Q0A (n * d) r
def capN : Nat → Int
  | 0 => 1
  | 1 => 40
  | 2 => 1600
  | _ => 64000
theorem Qcs {i : Nat} (hi : i < 3) {n d : Int} (hn : 0 ≤ n) (hn' : n ≤ capN i) (hd : 0 ≤ d) (hd' : d ≤ 40) : wi64 (n * d) = n * d ∧ 0 ≤ n * d ∧ n * d ≤ capN (i + 1) := by
  have h1 : 0 ≤ n * d := Int.mul_nonneg hn hd
  have h2 : n * d ≤ n * 40 := Int.mul_le_mul_of_nonneg_left hd' hn
  have h3 : n * d ≤ capN (i + 1) ∧ capN (i + 1) ≤ 64000 := by
    rcases (by omega : i = 0 ∨ i = 1 ∨ i = 2) with rfl | rfl | rfl <;> simp only [capN] at hn' ⊢ <;> omega
  exact ⟨Qq (by omega) (by omega), h1, h3.1⟩
def Q2b (D : List Int) : Bool := decide ((D.length : Int) ≤ 3) && (D.all (fun n => inr n 0 40) && decide (Q0A 1 D ≤ 600))
theorem Q6d {D : List Int} (h : Q2b D = true) : D.length ≤ 3 ∧ (∀ d ∈ D, 0 ≤ d ∧ d ≤ 40) ∧ Q0A 1 D ≤ 600 := by
  unfold Q2b at h
  simp only [Bool.and_eq_true, decide_eq_true_eq, List.all_eq_true, Q0j] at h
  exact ⟨by omega, h.2.1, h.2.2⟩
theorem Q8Z : ∀ (D : List Int) (n : Int), 0 ≤ n → (∀ d ∈ D, 0 ≤ d ∧ d ≤ 40) → 0 ≤ Q0A n D
  | [], _, h, _ => h
  | d :: r, n, h, hd => Q8Z r (n * d) (Int.mul_nonneg h (hd d (by simp)).1) (fun x hx => hd x (by simp [hx]))
theorem Qnz {D : List Int} (h : D.all (fun n => inr n 0 40) = true) : ∀ d ∈ D, 0 ≤ d ∧ d ≤ 40 := fun d hd => Q0j.1 (List.all_eq_true.1 h d hd)
theorem Q3X (D : List Int) : Q3j D = some (Q2b D) := by
  rw [Qi3]
  by_cases hl : (D.length : Int) > 3
  · rw [Qj hl, Q2b, decide_eq_false (by omega), Bool.false_and]
  · rw [Qi hl]
    have k := Q7y D (fun i (n : Int) => Q4K D n (i : Int)) (fun l n => some (l.all (fun n => inr n 0 40) && decide (Q0A n l ≤ 600))) (fun i n => 0 ≤ n ∧ n ≤ capN i)
      (fun n _ => by rw [QaI, Qi (by omega)]; rfl)
      (fun i x r n hx hi hd hI ih => by
        rw [QaI, Qj (by omega), Qg hx, Q0, Q02, Q0, Q0, Qh (by omega), List.all_cons]
        cases hr : inr x 0 40 with
        | false => rw [Bool.not_false, Qf, Bool.false_and, Bool.false_and]
        | true =>
          obtain ⟨e1, e2, e3⟩ := Qcs (by omega) hI.1 hI.2 (Q0j.1 hr).1 (Q0j.1 hr).2
          rw [Bool.not_true, Qb, e1, ih _ ⟨e2, e3⟩, Bool.true_and]; rfl) 0 1 (by omega) ⟨by decide, by decide⟩
    rw [show Q4K D 1 0 = _ from k, List.drop_zero, Q2b, decide_eq_true (show (D.length : Int) ≤ 3 by omega), Bool.true_and]
theorem Q92 (D : List Int) (hl : D.length ≤ 3) (hd : ∀ d ∈ D, 0 ≤ d ∧ d ≤ 40) : Q67 D = some (Q0A 1 D) := by
  rw [Qhj]
  have k := Q7y D (fun i (n : Int) => Q4h D n (i : Int)) (fun l n => some (Q0A n l)) (fun i n => 0 ≤ n ∧ n ≤ capN i)
    (fun n _ => by rw [Q9H, Qi (by omega)]; rfl)
    (fun i x r n hx hi hdr hI ih => by
      have hx' := hd x (Qo hx)
      obtain ⟨e1, e2, e3⟩ := Qcs (by omega) hI.1 hI.2 hx'.1 hx'.2
      rw [Q9H, Qj (by omega), Qg hx, Q0, Qh (by omega), e1, ih _ ⟨e2, e3⟩]; rfl) 0 1 (by omega) ⟨by decide, by decide⟩
  rw [show Q4h D 1 0 = _ from k, List.drop_zero]
theorem Q2L (D : List Int) (hl : D.length ≤ 3) (hd : ∀ d ∈ D, 0 ≤ d ∧ d ≤ 40) : Q2K D = some (Q0A 1 D) := by
  rw [QhJ]
  have k := Q7y D (fun i (n : Int) => Q4E n D (D.length : Int) (i : Int)) (fun l n => some (Q0A n l)) (fun i n => 0 ≤ n ∧ n ≤ capN i)
    (fun n _ => by rw [QaB, Qi (by omega)]; rfl)
    (fun i x r n hx hi hdr hI ih => by
      have hx' := hd x (Qo hx)
      obtain ⟨e1, e2, e3⟩ := Qcs (by omega) hI.1 hI.2 hx'.1 hx'.2
      rw [QaB, Qj (by omega), Qg hx, Q0, Qh (by omega), e1, ih _ ⟨e2, e3⟩]; rfl) 0 1 (by omega) ⟨by decide, by decide⟩
  rw [show Q4E 1 D (D.length : Int) 0 = _ from k, List.drop_zero]
theorem Q7s (l : List Int) (lo hi : Int) (hn : l.length ≤ 1048576) : Q44 l lo hi = some (l.all (fun n => inr n lo hi)) := by
  have k1 : Q0K l lo hi = some (l.any (fun n => !inr n lo hi)) := by
    rw [Q3Y, Q4s]
    refine Q5V (Q4M l _ (fun i => Q0f l (l.length : Int) i lo hi) (by rw [Q1y, Qi (by omega)]) (fun i x hx hi => ?_))
    rw [Q1y, Qj (by omega), Qg hx, Q0, Qez, QZ, Q0, Q0, Qh (by omega)]
  rw [Qgh, k1, Q0, QcW l (fun n => inr n lo hi) _ (fun _ _ => rfl), Bool.not_not]
theorem Q5i (D : List Int) : Q1U D = some (Q2b D) := by
  rw [Qgk, Q2b]
  by_cases hl : (D.length : Int) ≤ 3
  · rw [Qj hl, Q7s D 0 40 (by omega), Q0, decide_eq_true hl, Bool.true_and]
    cases ha : D.all (fun n => inr n 0 40) with
    | false => rw [Qb, Bool.false_and]
    | true => rw [Qf, Q2L D (by omega) (Qnz ha), Q0, Bool.true_and]
  · rw [Qi hl, decide_eq_false hl, Bool.false_and]
/-! spaceL -/
def spOk (p : Int × Int) : Bool := (p.1 == -1) || inr p.1 p.2 40
def spM (D M : List Int) : Bool := Q2b D && (((M.length : Int) == (D.length : Int)) && (M.zip D).all spOk)
theorem Qdt {A D : List Int} {i : Nat} {x : Int × Int} (h : (A.zip D)[i]? = some x) : A[i]? = some x.1 ∧ D[i]? = some x.2 := by
  rw [List.getElem?_zip_eq_some] at h
  exact h
theorem QhU (D M : List Int) : QaV D M = some (spM D M) := by
  rw [Qhf, Q3X, Q0, spM]
  cases hd : Q2b D with
  | false => rfl
  | true =>
    obtain ⟨d1, d2, d3⟩ := Q6d hd
    rw [Bool.not_true, Qb, Bool.true_and]
    by_cases hl : (M.length : Int) = (D.length : Int)
    · rw [Q1K (by rw [bne_eq_false_iff_eq]; exact hl), kbeq hl, Bool.true_and]
      have hz : (M.zip D).length = M.length := by rw [List.length_zip]; omega
      have k := Q0s (M.zip D) spOk (fun i => Q33 (i : Int) D M) false (fun i x hx hi => by
        obtain ⟨h1, h2⟩ := Qdt hx
        rw [Q9K, Qj (by omega), Qg h1, Q0, Q0, Qg h2, Q0, Q02, Q0, Qh (by omega)]
        unfold spOk
        by_cases hx1 : x.1 = -1
        · rw [Q1K (by rw [bne_eq_false_iff_eq]; exact hx1), kbeq hx1]; rfl
        · rw [Qe (by rw [bne_iff_ne]; exact hx1), kbne hx1, Bool.false_or, Q1Q])
      rw [show Q33 0 D M = _ from k, hz, Q9K, Qi (by omega), Qu, Bool.and_true]
    · rw [Qe (by rw [bne_iff_ne]; exact hl), kbne hl, Bool.false_and]
theorem QiI (D M : List Int) : Q9m D M = some (spM D M) := by
  rw [Qfn, Q5i, Q0, spM]
  cases hd : Q2b D with
  | false => rfl
  | true =>
    obtain ⟨d1, d2, d3⟩ := Q6d hd
    rw [Bool.not_true, Qb, Bool.true_and]
    by_cases hl : (M.length : Int) = (D.length : Int)
    · rw [Q1K (by rw [bne_eq_false_iff_eq]; exact hl), kbeq hl, Bool.true_and]
      have hz : (M.zip D).length = M.length := by rw [List.length_zip]; omega
      have k := Q0s (M.zip D) spOk (fun i => Q2o M (M.length : Int) (i : Int) D M) false (fun i x hx hi => by
        obtain ⟨h1, h2⟩ := Qdt hx
        rw [Q8F, Qj (by omega), Qg h1, Q0, Qg h2, Q0, QZ, Q0, Qh (by omega)]
        unfold spOk
        by_cases hx1 : x.1 = -1
        · rw [Q1K (by rw [bne_eq_false_iff_eq]; exact hx1), kbeq hx1]; rfl
        · rw [Qe (by rw [bne_iff_ne]; exact hx1), kbne hx1, Bool.false_or, Q1Q])
      rw [show Q2o M (M.length : Int) 0 D M = _ from k, hz, Q8F, Qi (by omega), Qu, Bool.and_true]
    · rw [Qe (by rw [bne_iff_ne]; exact hl), kbne hl, Bool.false_and]
/-! gridL -/
/-! chunks -/
def gdL (D C : List Int) : List Int := (D.zip C).map fun p => Int.tdiv (p.1 + p.2 - 1) p.2
def chM (D C : List Int) : Bool := Q2b D && (((C.length : Int) == (D.length : Int)) && (C.all (fun n => inr n 1 40) && (decide (Q0A 1 C ≤ 64) && ((gdL D C).all (fun n => inr n 0 16) && decide (Q0A 1 (gdL D C) ≤ 256)))))
theorem Qp7 {D C : List Int} (h : C.length = D.length) : (gdL D C).length = D.length := by unfold gdL; rw [List.length_map, List.length_zip]; omega
theorem Qls {d c : Int} (hd : 0 ≤ d ∧ d ≤ 40) (hc : 1 ≤ c ∧ c ≤ 40) : 0 ≤ Int.tdiv (d + c - 1) c ∧ Int.tdiv (d + c - 1) c ≤ 40 := by
  rw [Int.tdiv_eq_ediv_of_nonneg (by omega)]
  refine ⟨Int.ediv_nonneg (by omega) (by omega), ?_⟩
  have h1 : d + c - 1 ≤ 40 * c := by omega
  exact Int.ediv_le_of_le_mul (by omega) h1
theorem QqX {D C : List Int} (hD : ∀ d ∈ D, 0 ≤ d ∧ d ≤ 40) (hC : ∀ c ∈ C, 1 ≤ c ∧ c ≤ 40) : ∀ g ∈ gdL D C, 0 ≤ g ∧ g ≤ 40 := by
  intro g hg
  unfold gdL at hg
  obtain ⟨p, hp, rfl⟩ := List.mem_map.1 hg
  obtain ⟨i, hi⟩ := List.mem_iff_getElem?.1 hp
  obtain ⟨h1, h2⟩ := Qdt hi
  exact Qls (hD _ (Qo h1)) (hC _ (Qo h2))
theorem Qjd (D C : List Int) (hl : C.length = D.length) (h3 : D.length ≤ 3) (hD : ∀ d ∈ D, 0 ≤ d ∧ d ≤ 40) (hC : ∀ c ∈ C, 1 ≤ c ∧ c ≤ 40) : Q9t D C = some (gdL D C) := by
  have hz : (D.zip C).length = D.length := by rw [List.length_zip]; omega
  rw [Qi9]
  have k := Q7y (D.zip C) (fun i (out : List Int) => Q6w D C (i : Int) out) (fun l out => some (out ++ l.map fun p => Int.tdiv (p.1 + p.2 - 1) p.2)) (fun i out => out.length = i)
    (fun out hI => by rw [hz, QaK, Qi (by omega)]; simp)
    (fun i x r out hx hi hd hI ih => by
      obtain ⟨g1, g2⟩ := Qdt hx
      have a := hD _ (Qo g1)
      have b := hC _ (Qo g2)
      have v := Qls a b
      rw [QaK, Qj (by omega), Qg g1, Q0, Qg g2, Q0, Q0, Qi (by omega), Qe (Q38 (by omega)), Qq (n := x.1 + x.2) (by omega) (by omega), Qq (n := x.1 + x.2 - 1) (by omega) (by omega), Qq (n := Int.tdiv (x.1 + x.2 - 1) x.2) (by omega) (by omega), Qh (by omega), ih _ (by simp; omega)]
      simp) 0 [] (by omega) rfl
  exact k
theorem QjG (D C : List Int) (hl : C.length = D.length) (h3 : D.length ≤ 3) (hD : ∀ d ∈ D, 0 ≤ d ∧ d ≤ 40) (hC : ∀ c ∈ C, 1 ≤ c ∧ c ≤ 40) : Qd4 D C = some (gdL D C) := by
  have hz : (D.zip C).length = D.length := by rw [List.length_zip]; omega
  rw [Qj4]
  have k := Q7y (D.zip C) (fun i (out : List Int) => Q7o C D (D.length : Int) (i : Int) out) (fun l out => some (out ++ l.map fun p => Int.tdiv (p.1 + p.2 - 1) p.2)) (fun i out => out.length = i)
    (fun out hI => by rw [hz, Qbe, Qi (by omega)]; simp)
    (fun i x r out hx hi hd hI ih => by
      obtain ⟨g1, g2⟩ := Qdt hx
      have a := hD _ (Qo g1)
      have b := hC _ (Qo g2)
      have v := Qls a b
      rw [Qbe, Qj (by omega), Qg g1, Q0, Qg g2, Q0, Q0, Qi (by omega), Qe (Q38 (by omega)), Qq (n := x.1 + x.2) (by omega) (by omega), Qq (n := x.1 + x.2 - 1) (by omega) (by omega), Qq (n := Int.tdiv (x.1 + x.2 - 1) x.2) (by omega) (by omega), Qh (by omega), ih _ (by simp; omega)]
      simp) 0 [] (by omega) rfl
  exact k
theorem Qc4 {C : List Int} (h : C.all (fun n => inr n 1 40) = true) : ∀ d ∈ C, 1 ≤ d ∧ d ≤ 40 := fun d hd => Q0j.1 (List.all_eq_true.1 h d hd)
theorem QhN (D C : List Int) : QdV D C = some (chM D C) := by
  rw [Ql9, Q3X, Q0, chM]
  cases hd : Q2b D with
  | false => rfl
  | true =>
    obtain ⟨d1, d2, d3⟩ := Q6d hd
    rw [Bool.not_true, Qb, Bool.true_and]
    by_cases hl : (C.length : Int) = (D.length : Int)
    · rw [Q1K (by rw [bne_eq_false_iff_eq]; exact hl), kbeq hl, Bool.true_and]
      have k := Q7y C (fun i (n : Int) => Q6a D C n (i : Int)) (fun l n => sif (l.all (fun n => inr n 1 40)) (sbind (Q9t D C) fun r1 => Q40 (Q0A n l) 0 r1) (some false)) (fun i n => 0 ≤ n ∧ n ≤ capN i)
        (fun n _ => by rw [QbN, Qi (by omega)]; rfl)
        (fun i x r n hx hi hdr hI ih => by
          rw [QbN, Qj (by omega), Qg hx, Q0, Q02, Q0, Q0, Qh (by omega), List.all_cons]
          cases hr : inr x 1 40 with
          | false => rw [Bool.not_false, Qf, Bool.false_and, Qb]
          | true =>
            have hrr := Q0j.1 hr
            obtain ⟨e1, e2, e3⟩ := Qcs (by omega) hI.1 hI.2 (show 0 ≤ x by omega) hrr.2
            rw [Bool.not_true, Qb, e1, ih _ ⟨e2, e3⟩, Bool.true_and]; rfl) 0 1 (by omega) ⟨by decide, by decide⟩
      rw [show Q6a D C 1 0 = _ from k, List.drop_zero]
      cases hc : C.all (fun n => inr n 1 40) with
      | false => rw [Qb, Bool.false_and]
      | true =>
        have hC := Qc4 hc
        have hg := QqX d2 hC
        have hgl := Qp7 (D := D) (C := C) (by omega)
        rw [Qf, Qjd D C (by omega) d1 d2 hC, Q0, Bool.true_and]
        have k2 := Q0s (gdL D C) (fun n => inr n 0 16) (fun i => Q40 (Q0A 1 C) (i : Int) (gdL D C)) false (fun i x hx hi => by
          have hv := hg x (Qo hx)
          rw [Qbj, Qj (by omega), Qe (Q4U (by omega) (by omega)), Int.toNat_natCast, hx, Q0, Qh (by omega)]
          by_cases h : x > 16
          · have hr : inr x 0 16 = false := by
              cases hb : inr x 0 16 with
              | false => rfl
              | true => have := Q0j.1 hb; omega
            rw [Qj h, hr, Qb]
          · rw [Qi h, show inr x 0 16 = true from Q0j.2 (by omega), Qf])
        rw [show Q40 (Q0A 1 C) 0 (gdL D C) = _ from k2, Qbj, Qi (by omega), Q92 (gdL D C) (by omega) hg, Q0]
        by_cases h64 : Q0A 1 C ≤ 64
        · rw [Qj h64, decide_eq_true h64, Bool.true_and, Qu]
        · rw [Qi h64, decide_eq_false h64, Bool.false_and]
          cases (gdL D C).all (fun n => inr n 0 16) <;> rfl
    · rw [Qe (by rw [bne_iff_ne]; exact hl), kbne hl, Bool.false_and]
theorem Qie (D C : List Int) : Q91 D C = some (chM D C) := by
  rw [Qf8, Q5i, Q0, chM]
  cases hd : Q2b D with
  | false => rfl
  | true =>
    obtain ⟨d1, d2, d3⟩ := Q6d hd
    rw [Bool.not_true, Qb, Bool.true_and]
    by_cases hl : (C.length : Int) = (D.length : Int)
    · rw [Q1K (by rw [bne_eq_false_iff_eq]; exact hl), kbeq hl, Bool.true_and, Q7s C 1 40 (by omega), Q0]
      cases hc : C.all (fun n => inr n 1 40) with
      | false => rw [Bool.not_false, Qf, Bool.false_and]
      | true =>
        have hC := Qc4 hc
        have hC0 : ∀ d ∈ C, 0 ≤ d ∧ d ≤ 40 := fun d hd => by have := hC d hd; omega
        have hg := QqX d2 hC
        have hgl := Qp7 (D := D) (C := C) (by omega)
        rw [Bool.not_true, Qb, Bool.true_and, Q2L C (by omega) hC0, Q0]
        by_cases h64 : Q0A 1 C > 64
        · rw [Qj h64, decide_eq_false (by omega), Bool.false_and]
        · rw [Qi h64, decide_eq_true (show Q0A 1 C ≤ 64 by omega), Bool.true_and, QjG D C (by omega) d1 d2 hC, Q0, Q7s (gdL D C) 0 16 (by omega), Q0, Q2L (gdL D C) (by omega) hg, Q0, Qu]
    · rw [Qe (by rw [bne_iff_ne]; exact hl), kbne hl, Bool.false_and]
theorem Qr1 {D C : List Int} (h : chM D C = true) : C.length ≤ 3 ∧ (∀ d ∈ C, 0 ≤ d ∧ d ≤ 40) ∧ 0 ≤ Q0A 1 C ∧ Q0A 1 C ≤ 64 := by
  unfold chM at h
  simp only [Bool.and_eq_true, beq_iff_eq, decide_eq_true_eq] at h
  obtain ⟨h1, h2, h3, h4, h5, h6⟩ := h
  have d1 := (Q6d h1).1
  have hC := Qc4 h3
  have hC0 : ∀ d ∈ C, 0 ≤ d ∧ d ≤ 40 := fun d hd => by have := hC d hd; omega
  exact ⟨by omega, hC0, Q8Z C 1 (by decide) hC0, h4⟩
/-! pipL -/
def fOk (f : Int × Int × Bool) : Bool := if f.1 = 1 then inr f.2.1 1 24 && !f.2.2 else if f.1 = 2 then ((f.2.1 == 1) || ((f.2.1 == 2) || (f.2.1 == 4))) && !f.2.2 else if f.1 = 3 then f.2.1 == 0 else if f.1 = 4 then f.2.1 == 0 else if f.1 = 5 then (f.2.1 == 0) && !f.2.2 else false
theorem QkW (f : Int × Int × Bool) : QdX f.1 f.2.1 f.2.2 = some (fOk f) := by
  rw [Ql2, fOk]
  by_cases h1 : f.1 = 1
  · rw [kbeq h1, Qf, if_pos h1, Q02, Q0, Qu]
  rw [kbne h1, Qb, if_neg h1]
  by_cases h2 : f.1 = 2
  · rw [kbeq h2, Qf, if_pos h2]
    cases (f.2.1 == 1) <;> cases (f.2.1 == 2) <;> cases (f.2.1 == 4) <;> rfl
  rw [kbne h2, Qb, if_neg h2]
  by_cases h3 : f.1 = 3
  · rw [kbeq h3, Qf, Qf, if_pos h3]
  rw [kbne h3, Qb, if_neg h3]
  by_cases h4 : f.1 = 4
  · rw [kbeq h4, Qf, if_pos h4]
  rw [kbne h4, Qb, if_neg h4]
  by_cases h5 : f.1 = 5
  · rw [kbeq h5, Qf, if_pos h5, Qu]
  · rw [kbne h5, Qb, if_neg h5]
theorem QkY (f : Int × Int × Bool) : Q8o f.1 f.2.1 f.2.2 = some (fOk f) := by
  rw [QeD, fOk]
  by_cases h1 : f.1 = 1
  · rw [kbeq h1, Qf, if_pos h1, QZ, Q0, Qu]
  rw [kbne h1, Qb, if_neg h1]
  by_cases h2 : f.1 = 2
  · rw [kbeq h2, Qf, if_pos h2, Qi4, Qk1, Qk1, Q0, Qu]
  rw [kbne h2, Qb, if_neg h2]
  by_cases h3 : f.1 = 3
  · rw [kbeq h3, Qf, Qf, if_pos h3]
  rw [kbne h3, Qb, if_neg h3]
  by_cases h4 : f.1 = 4
  · rw [kbeq h4, Qf, if_pos h4]
  rw [kbne h4, Qb, if_neg h4]
  by_cases h5 : f.1 = 5
  · rw [kbeq h5, Qf, if_pos h5, Qu]
  · rw [kbne h5, Qb, if_neg h5]
def plM (l : List (Int × Int × Bool)) : Bool := l.all fOk && decide ((l.length : Int) ≤ 4)
theorem QlP (l : List (Int × Int × Bool)) (hn : l.length ≤ 1048576) : Qef l = some (plM l) := by
  rw [QkA, plM]
  have k := Q0s l fOk (fun i => Q63 l (i : Int)) false (fun i x hx hi => by
    rw [Qcf, Qj (by omega), Qg hx, Q0, QkW, Q0, Qh (by omega), Q1Q])
  rw [show Q63 l 0 = _ from k, Qcf, Qi (by omega), Qu]
theorem QmE (l : List (Int × Int × Bool)) (hn : l.length ≤ 1048576) : Q6L l = some (plM l) := by
  have k1 : Q05 l = some (l.any (fun n => !fOk n)) := by
    rw [Q2d, Q2y]
    refine Q5V (Q4M l _ (fun i => QO l (l.length : Int) i) (by rw [Q0z, Qi (by omega)]) (fun i x hx hi => ?_))
    rw [Q0z, Qj (by omega), Qg hx, Q0, Qco, QkY, Q0, Q0, Qh (by omega)]
  rw [Qdr, k1, Q0, QcW l fOk _ (fun _ _ => rfl), Bool.not_not, plM]
  by_cases h : (l.length : Int) ≤ 4
  · rw [Qj h, decide_eq_true h, Bool.and_true]
  · rw [Qi h, decide_eq_false h, Bool.and_false]
/-! dsL -/
def dsM (t : Q7) (SD SM C : List Int) (F : List (Int × Int × Bool)) (b : ByteArray) (ix : Int) : Bool :=
  vT 3 t && (decide (((ecT 3 t).length : Int) ≤ 200) && (spM SD SM && (chM SD C && (decide (Q0A 1 C * szT t ≤ 512) && (plM F && (eT 3 t (ofB b) && inr ix 0 255))))))
theorem QnT {t : Q7} {C : List Int} (hv : vT 3 t = true) (h0 : 0 ≤ Q0A 1 C) (h1 : Q0A 1 C ≤ 64) : wi64 (Q0A 1 C * szT t) = Q0A 1 C * szT t := by
  have hs := Q0Q hv
  have e1 : 0 ≤ Q0A 1 C * szT t := Int.mul_nonneg h0 (by omega)
  have e2 : Q0A 1 C * szT t ≤ 64 * 24 := Int.mul_le_mul h1 hs.2 (by omega) (by decide)
  exact Qq (by omega) (by omega)
theorem Qj9 (o : K_Op) (hok : Qd o.2.2.2.2.1) (hF : o.2.2.2.2.2.2.2.2.1.length ≤ 1048576) (hb : o.2.2.2.2.2.2.2.2.2.1.size ≤ 1048576) : QdR o.1 o.2.1 o.2.2.1 o.2.2.2.1 o.2.2.2.2.1.Q3 o.2.2.2.2.1.Q8 o.2.2.2.2.1.Q2 o.2.2.2.2.1.Qa o.2.2.2.2.1.Q5 o.2.2.2.2.1.Q9 o.2.2.2.2.1.Q1 o.2.2.2.2.1.Q6 o.2.2.2.2.1.Q4 o.2.2.2.2.2.1 o.2.2.2.2.2.2.1 o.2.2.2.2.2.2.2.1 o.2.2.2.2.2.2.2.2.1 o.2.2.2.2.2.2.2.2.2.1 o.2.2.2.2.2.2.2.2.2.2.1 o.2.2.2.2.2.2.2.2.2.2.2.1 o.2.2.2.2.2.2.2.2.2.2.2.2.1 o.2.2.2.2.2.2.2.2.2.2.2.2.2.1 o.2.2.2.2.2.2.2.2.2.2.2.2.2.2.1 o.2.2.2.2.2.2.2.2.2.2.2.2.2.2.2.1 o.2.2.2.2.2.2.2.2.2.2.2.2.2.2.2.2.1 o.2.2.2.2.2.2.2.2.2.2.2.2.2.2.2.2.2.1 o.2.2.2.2.2.2.2.2.2.2.2.2.2.2.2.2.2.2.1 o.2.2.2.2.2.2.2.2.2.2.2.2.2.2.2.2.2.2.2.1 o.2.2.2.2.2.2.2.2.2.2.2.2.2.2.2.2.2.2.2.2.1.Q3 o.2.2.2.2.2.2.2.2.2.2.2.2.2.2.2.2.2.2.2.2.1.Q8 o.2.2.2.2.2.2.2.2.2.2.2.2.2.2.2.2.2.2.2.2.1.Q2 o.2.2.2.2.2.2.2.2.2.2.2.2.2.2.2.2.2.2.2.2.1.Qa o.2.2.2.2.2.2.2.2.2.2.2.2.2.2.2.2.2.2.2.2.1.Q5 o.2.2.2.2.2.2.2.2.2.2.2.2.2.2.2.2.2.2.2.2.1.Q9 o.2.2.2.2.2.2.2.2.2.2.2.2.2.2.2.2.2.2.2.2.1.Q1 o.2.2.2.2.2.2.2.2.2.2.2.2.2.2.2.2.2.2.2.2.1.Q6 o.2.2.2.2.2.2.2.2.2.2.2.2.2.2.2.2.2.2.2.2.1.Q4 o.2.2.2.2.2.2.2.2.2.2.2.2.2.2.2.2.2.2.2.2.2.1 o.2.2.2.2.2.2.2.2.2.2.2.2.2.2.2.2.2.2.2.2.2.2.1 o.2.2.2.2.2.2.2.2.2.2.2.2.2.2.2.2.2.2.2.2.2.2.2.1.Q3 o.2.2.2.2.2.2.2.2.2.2.2.2.2.2.2.2.2.2.2.2.2.2.2.1.Q8 o.2.2.2.2.2.2.2.2.2.2.2.2.2.2.2.2.2.2.2.2.2.2.2.1.Q2 o.2.2.2.2.2.2.2.2.2.2.2.2.2.2.2.2.2.2.2.2.2.2.2.1.Qa o.2.2.2.2.2.2.2.2.2.2.2.2.2.2.2.2.2.2.2.2.2.2.2.1.Q5 o.2.2.2.2.2.2.2.2.2.2.2.2.2.2.2.2.2.2.2.2.2.2.2.1.Q9 o.2.2.2.2.2.2.2.2.2.2.2.2.2.2.2.2.2.2.2.2.2.2.2.1.Q1 o.2.2.2.2.2.2.2.2.2.2.2.2.2.2.2.2.2.2.2.2.2.2.2.1.Q6 o.2.2.2.2.2.2.2.2.2.2.2.2.2.2.2.2.2.2.2.2.2.2.2.1.Q4 o.2.2.2.2.2.2.2.2.2.2.2.2.2.2.2.2.2.2.2.2.2.2.2.2.1 o.2.2.2.2.2.2.2.2.2.2.2.2.2.2.2.2.2.2.2.2.2.2.2.2.2.1 o.2.2.2.2.2.2.2.2.2.2.2.2.2.2.2.2.2.2.2.2.2.2.2.2.2.2 = some (dsM o.2.2.2.2.1 o.2.2.2.2.2.1 o.2.2.2.2.2.2.1 o.2.2.2.2.2.2.2.1 o.2.2.2.2.2.2.2.2.1 o.2.2.2.2.2.2.2.2.2.1 o.2.2.2.2.2.2.2.2.2.2.1) := by
  rw [QkQ, QbY o.2.2.2.2.1 hok, Q0, dsM]
  cases hv : vT 3 o.2.2.2.2.1 with
  | false => rfl
  | true =>
    have he := Q83 3 o.2.2.2.2.1 (ofB o.2.2.2.2.2.2.2.2.2.1) hv (Q6f o.2.2.2.2.2.2.2.2.2.1) (by rw [ofB_len]; exact hb)
    rw [Q2q] at he
    rw [Bool.not_true, Qb, Bool.true_and, Q60 3 o.2.2.2.2.1 (by omega) hok hv, Q0, Qz]
    by_cases hl : ((ecT 3 o.2.2.2.2.1).length : Int) > 200
    · rw [Qj hl, decide_eq_false (by omega), Bool.false_and]
    rw [Qi hl, decide_eq_true (show ((ecT 3 o.2.2.2.2.1).length : Int) ≤ 200 by omega), Bool.true_and, QhU, Q0]
    cases spM o.2.2.2.2.2.1 o.2.2.2.2.2.2.1 with
    | false => rfl
    | true =>
      rw [Bool.not_true, Qb, Bool.true_and, QhN, Q0]
      cases hc : chM o.2.2.2.2.2.1 o.2.2.2.2.2.2.2.1 with
      | false => rfl
      | true =>
        obtain ⟨c1, c2, c3, c4⟩ := Qr1 hc
        rw [Bool.not_true, Qb, Bool.true_and, QgY, Q92 o.2.2.2.2.2.2.2.1 c1 c2, Q0, Q1j hv, Q0, Q0, QnT hv c3 c4]
        cases decide (Q0A 1 o.2.2.2.2.2.2.2.1 * szT o.2.2.2.2.1 ≤ 512) with
        | false => rfl
        | true =>
          rw [Qf, Bool.true_and, QlP o.2.2.2.2.2.2.2.2.1 hF, Q0]
          cases plM o.2.2.2.2.2.2.2.2.1 with
          | false => rfl
          | true =>
            rw [Qf, Bool.true_and, he, Q0]
            cases eT 3 o.2.2.2.2.1 (ofB o.2.2.2.2.2.2.2.2.2.1) with
            | false => rfl
            | true => rw [Qf, Bool.true_and, Q02, Q0]
theorem QlF (t : Q7) (hok : Qd t) (SD SM C : List Int) (F : List (Int × Int × Bool)) (hF : F.length ≤ 1048576) (b : ByteArray) (hb : b.size ≤ 1048576) (ix : Int) :
    Q3G t.Q3 t.Q8 t.Q2 t.Qa t.Q5 t.Q9 t.Q1 t.Q6 t.Q4 SD SM C F b ix = some (dsM t SD SM C F b ix) := by
  rw [QdQ, QbX, Q7I, show Q0b t.Q3 t.Q8 t.Q2 t.Qa t.Q5 t.Q9 t.Q1 t.Q6 t.Q4 3 = _ from Q6v 3 (by omega) t hok, Q0, Q0, dsM]
  cases hv : vT 3 t with
  | false => rfl
  | true =>
    have he := Q6b 3 t (ofB b) hok hv (Q6f b) (by rw [ofB_len]; exact hb)
    rw [Q2q] at he
    rw [Qf, Bool.true_and, Q65 3 t (by omega) hok hv, Q0, Qz, Q0]
    cases decide (((ecT 3 t).length : Int) ≤ 200) with
    | false => rfl
    | true =>
      rw [Qf, Bool.true_and, QiI, Q0]
      cases spM SD SM with
      | false => rfl
      | true =>
        rw [Qf, Bool.true_and, Qie, Q0]
        cases hc : chM SD C with
        | false => rfl
        | true =>
          obtain ⟨c1, c2, c3, c4⟩ := Qr1 hc
          rw [Qf, Bool.true_and, Q2L C c1 c2, Q0, Q1T hv, Q0, QnT hv c3 c4]
          cases decide (Q0A 1 C * szT t ≤ 512) with
          | false => rfl
          | true =>
            rw [Qf, Bool.true_and, QmE F hF, Q0]
            cases plM F with
            | false => rfl
            | true =>
              rw [Qf, Bool.true_and, he, Q0]
              cases eT 3 t (ofB b) with
              | false => rfl
              | true => rw [Qf, Bool.true_and, QZ, Q0]
/-! arrL -/
/-! its data, element by element -/
def okD (p : List Int → Bool) (z : Nat) : Nat → List Int → Bool
  | 0, _ => true
  | k + 1, l => p (l.take z) && okD p z k (l.drop z)
def chD (z : Nat) : Nat → List Int → List ByteArray
  | 0, _ => []
  | k + 1, l => toB (l.take z) :: chD z k (l.drop z)
theorem QiO (z : Nat) : ∀ (k : Nat) (l : List Int), (chD z k l).length = k
  | 0, _ => rfl
  | k + 1, l => by rw [chD, List.length_cons, QiO z k]
theorem QeY (t : Q7) (hok : Qd t) (hv : vT 3 t = true) (z : Nat) (hz : (z : Int) = szT t) : ∀ (n : Nat) (l : List Int) (out : List ByteArray), l.length ≤ n → inB l → out.length + l.length ≤ 1048576 →
    Q3u (toB l) (z : Int) t.Q3 t.Q8 t.Q2 t.Qa t.Q5 t.Q9 t.Q1 t.Q6 t.Q4 out = some (if l.length % z = 0 ∧ okD (eT 3 t) z (l.length / z) l = true then (true, out ++ chD z (l.length / z) l) else (false, [])) := by
  have hs := Q0Q hv
  intro n
  induction n with
  | zero =>
    intro l out hn hl hr
    obtain rfl : l = [] := List.length_eq_zero_iff.1 (by omega)
    rw [Q4g, show seq (toB []) (bs []) = true from Qbz.2 rfl, Bool.not_true, Qb]
    simp [okD, chD]
  | succ n ih =>
    intro l out hn hl hr
    by_cases h0 : l = []
    · subst h0
      rw [Q4g, show seq (toB []) (bs []) = true from Qbz.2 rfl, Bool.not_true, Qb]
      simp [okD, chD]
    · have hp : 0 < l.length := List.length_pos_iff.2 h0
      have hne : seq (toB l) (bs []) = false := by
        cases hq : seq (toB l) (bs []) with
        | false => rfl
        | true =>
          have := congrArg ByteArray.size (Qbz.1 hq)
          rw [Qz, Qrf] at this
          simp at this
          exact absurd this h0
      rw [Q4g, hne, Bool.not_false, Qf, Qz]
      by_cases hlt : (l.length : Int) < z
      · rw [Qj hlt, if_neg (fun h => by have := Nat.mod_eq_of_lt (show l.length < z by omega); omega)]
      · have hd : (l.drop z).length = l.length - z := List.length_drop
        have ht : (l.take z).length = z := by rw [List.length_take]; omega
        have e1 : l.length % z = (l.drop z).length % z := by rw [hd]; exact Nat.mod_eq_sub_mod (by omega)
        have e2 : l.length / z = (l.drop z).length / z + 1 := by rw [hd]; exact Nat.div_eq_sub_div (by omega) (by omega)
        have x1 : (toB l).extract 0 ((z : Int).toNat) = toB (l.take z) := by rw [QbS, Int.toNat_natCast]; rfl
        have x2 : (toB l).extract ((z : Int).toNat) l.length = toB (l.drop z) := by rw [QbS, Int.toNat_natCast]; unfold sl; rw [List.take_length]
        rw [Qi hlt, Qe (Q0n (by omega) (by omega)), x1, Q6b 3 t (l.take z) hok hv (QbV hl z) (by omega), Q0, e1, e2]
        cases he : eT 3 t (l.take z) with
        | false => rw [Bool.not_false, Qf, if_neg (fun h => by have := h.2; rw [okD, he] at this; simp at this)]
        | true =>
          rw [Bool.not_true, Qb, Qe (Q0n (by omega) (by omega)), Qe (Q38 (by omega)), Qe (Q0n (by omega) (by omega)), x2, ih (l.drop z) _ (by omega) (Qej hl z) (by rw [List.length_append, List.length_singleton]; omega), okD, he, Bool.true_and, chD, List.append_assoc]
          rfl
theorem Qfm (t : Q7) (hok : Qd t) (hv : vT 3 t = true) (l : List Int) (hl : inB l) (hn : l.length ≤ 1048576) :
    Q71 t.Q3 t.Q8 t.Q2 t.Qa t.Q5 t.Q9 t.Q1 t.Q6 t.Q4 (toB l) = some (if l.length % (szT t).toNat = 0 ∧ okD (eT 3 t) (szT t).toNat (l.length / (szT t).toNat) l = true then (true, chD (szT t).toNat (l.length / (szT t).toNat) l) else (false, [])) := by
  have hs := Q0Q hv
  rw [Qd9, Q1T hv, Q0]
  have := QeY t hok hv (szT t).toNat (by omega) l.length l [] (Nat.le_refl _) hl (by simp; omega)
  rw [show (((szT t).toNat : Nat) : Int) = szT t by omega] at this
  exact this
theorem QiY (t : Q7) (hv : vT 3 t = true) (z : Nat) (hz : (z : Int) = szT t) (l : List Int) (hl : inB l) (hn : l.length ≤ 1048576) : ∀ (q i : Nat), l.length = (i + q) * z →
    Q6r (toB l) (z : Int) ((i * z : Nat) : Int) t.Q3 t.Q8 t.Q2 t.Qa t.Q5 t.Q9 t.Q1 t.Q6 t.Q4 = some (okD (eT 3 t) z q (l.drop (i * z))) := by
  have hs := Q0Q hv
  intro q
  induction q with
  | zero =>
    intro i hi
    rw [Nat.add_zero] at hi
    rw [Qaw, Qz, Qi (by omega)]; rfl
  | succ q ih =>
    intro i hi
    have hm : (i + 1) * z = i * z + z := by rw [Nat.add_mul, Nat.one_mul]
    have hm2 : (i + (q + 1)) * z = i * z + z + q * z := by rw [Nat.add_mul, Nat.add_mul, Nat.one_mul]; omega
    rw [Qaw, Qz, Qj (by omega), Qq (n := ((i * z : Nat) : Int) + z) (by omega) (by omega), Qe (Q0n (by omega) (by omega)), Qe (Q0n (by omega) (by omega))]
    have hx : (toB l).extract ((i * z : Nat) : Int).toNat ((((i * z : Nat) : Int) + z).toNat) = toB ((l.drop (i * z)).take z) := by
      rw [QbS, QdL]; congr 2; omega
    have hlen : ((l.drop (i * z)).take z).length = z := by rw [List.length_take, List.length_drop]; omega
    rw [hx, Q83 3 t _ hv (QbV (Qej hl _) _) (by omega), Q0, show ((i * z : Nat) : Int) + z = (((i + 1) * z : Nat) : Int) by omega, ih (i + 1) (by rw [hi]; congr 1; omega), okD, List.drop_drop, show i * z + z = (i + 1) * z by omega]
    cases eT 3 t ((l.drop (i * z)).take z) <;> rfl
theorem Qj3 (t : Q7) (hv : vT 3 t = true) (l : List Int) (hl : inB l) (hn : l.length ≤ 1048576) :
    QbW t.Q3 t.Q8 t.Q2 t.Qa t.Q5 t.Q9 t.Q1 t.Q6 t.Q4 (toB l) = some (decide (l.length % (szT t).toNat = 0) && okD (eT 3 t) (szT t).toNat (l.length / (szT t).toNat) l) := by
  have hs := Q0Q hv
  have hz : (((szT t).toNat : Nat) : Int) = szT t := by omega
  rw [QiJ, Q1j hv, Q0, Qi (by omega), Qz, ← hz]
  have hm : Int.tmod (l.length : Int) (((szT t).toNat : Nat) : Int) = ((l.length % (szT t).toNat : Nat) : Int) := rfl
  rw [hm, Int.toNat_natCast]
  by_cases h : l.length % (szT t).toNat = 0
  · rw [h, decide_eq_true rfl, Bool.true_and]
    have hq : l.length = (0 + l.length / (szT t).toNat) * (szT t).toNat := by rw [Nat.zero_add, Nat.div_mul_cancel (Nat.dvd_of_mod_eq_zero h)]
    have := QiY t hv (szT t).toNat hz l hl hn _ 0 hq
    rw [Nat.zero_mul] at this
    exact this
  · rw [Qe (by rw [bne_iff_ne]; omega), decide_eq_false h, Bool.false_and]
/-! arrays -/
def arrM (t : Q7) (D : List Int) (l : List Int) : Bool := vT 3 t && (Q2b D && (((l.length : Int) == Q0A 1 D * szT t) && okD (eT 3 t) (szT t).toNat (l.length / (szT t).toNat) l))
theorem Qig (t : Q7) (hok : Qd t) (D l : List Int) (hl : inB l) (hn : l.length ≤ 1048576) :
    Q8W t.Q3 t.Q8 t.Q2 t.Qa t.Q5 t.Q9 t.Q1 t.Q6 t.Q4 D (toB l) = some (arrM t D l) := by
  rw [Qf9, Q7I, show Q0b t.Q3 t.Q8 t.Q2 t.Qa t.Q5 t.Q9 t.Q1 t.Q6 t.Q4 3 = _ from Q6v 3 (by omega) t hok, Q0, Q0, arrM]
  cases hv : vT 3 t with
  | false => rw [Bool.not_false, Qf, Bool.false_and]
  | true =>
    have hs := Q0Q hv
    rw [Bool.not_true, Qb, Q5i, Q0, Bool.true_and]
    cases hd : Q2b D with
    | false => rw [Bool.not_false, Qf, Bool.false_and]
    | true =>
      obtain ⟨d1, d2, d3⟩ := Q6d hd
      have d4 := Q8Z D 1 (by decide) d2
      rw [Bool.not_true, Qb, Qfm t hok hv l hl hn, Q0, Bool.true_and]
      by_cases hc : (l.length : Int) = Q0A 1 D * szT t
      · have hm : l.length = (Q0A 1 D).toNat * (szT t).toNat := by
          have : ((l.length : Nat) : Int) = (((Q0A 1 D).toNat * (szT t).toNat : Nat) : Int) := by rw [hc, Int.natCast_mul, Int.toNat_of_nonneg d4, Int.toNat_of_nonneg (by omega)]
          exact_mod_cast this
        have hm1 : l.length % (szT t).toNat = 0 := by rw [hm]; exact Nat.mul_mod_left _ _
        have hm2 : l.length / (szT t).toNat = (Q0A 1 D).toNat := by rw [hm]; exact Nat.mul_div_cancel _ (by omega)
        rw [kbeq hc, Bool.true_and]
        cases ho : okD (eT 3 t) (szT t).toNat (l.length / (szT t).toNat) l with
        | false => rw [if_neg (fun h => by simp at h)]; rfl
        | true =>
          rw [if_pos ⟨hm1, rfl⟩]
          show sif true (sbind (Q2K D) fun r4 => some (((chD (szT t).toNat (l.length / (szT t).toNat) l).length : Int) == r4)) _ = _
          rw [Qf, Q2L D d1 d2, Q0, QiO, hm2, kbeq (by omega)]
      · rw [kbne hc, Bool.false_and]
        by_cases hb : l.length % (szT t).toNat = 0 ∧ okD (eT 3 t) (szT t).toNat (l.length / (szT t).toNat) l = true
        · rw [if_pos hb]
          show sif true (sbind (Q2K D) fun r4 => some (((chD (szT t).toNat (l.length / (szT t).toNat) l).length : Int) == r4)) _ = _
          rw [Qf, Q2L D d1 d2, Q0, QiO, kbne]
          intro h
          apply hc
          have h5 : l.length = l.length / (szT t).toNat * (szT t).toNat := (Nat.div_mul_cancel (Nat.dvd_of_mod_eq_zero hb.1)).symm
          have h6 : ((szT t).toNat : Int) = szT t := by omega
          rw [← h, ← h6, Int.toNat_natCast, ← Int.natCast_mul, ← h5]
        · rw [if_neg hb]; rfl
/-! szArr -/
theorem Qnv (t : Q7) (hok : Qd t) (D : List Int) (hD : D.length ≤ maxLen ∧ D.length * 8 ≤ 140737488351232 ∧ ∀ e_ ∈ D, (Lit.int .i64 e_).wf = true) (b : ByteArray) (hb : b.size ≤ 140737488351232) (left : Int) (h0 : 0 ≤ left) (h1 : left ≤ 1048576) :
    ∃ r, Q5k t.Q3 t.Q8 t.Q2 t.Qa t.Q5 t.Q9 t.Q1 t.Q6 t.Q4 D b left = some r ∧ r ≤ 1048576 ∧ (0 ≤ r → b.size ≤ 1048576) := by
  rw [QcB]
  obtain ⟨r1, e1, a1, b1⟩ := Qh3 t hok left h0 h1
  rw [e1, Q0]
  by_cases c1 : r1 < 0
  · rw [Qj c1]; exact ⟨_, rfl, by omega, fun h => by omega⟩
  · rw [Qi c1]
    obtain ⟨r2, e2, a2, b2⟩ := Qbr D hD r1 (by omega) b1
    rw [e2, Q0]
    by_cases c2 : r2 < 0
    · rw [Qj c2]; exact ⟨_, rfl, by omega, fun h => by omega⟩
    · rw [Qi c2, Qq (by omega) (by omega)]
      by_cases c3 : r2 - (b.size : Int) < 0
      · rw [Qj c3]; exact ⟨_, rfl, by omega, fun h => by omega⟩
      · rw [Qi c3]; exact ⟨_, rfl, by omega, fun h => by omega⟩
/-! idxL -/
/-! coordinates, the linear index -/
def insL (l : List (Int × Int)) : Bool := l.all (fun p => inr p.1 0 (p.2 - 1))
def insM (D A : List Int) : Bool := ((A.length : Int) == (D.length : Int)) && insL (A.zip D)
theorem Qpg {A D : List Int} {i : Nat} {x : Int × Int} (h : (A.zip D)[i]? = some x) : A[i]? = some x.1 ∧ D[i]? = some x.2 := by
  rw [List.getElem?_zip_eq_some] at h
  exact h
theorem Qhl (D A : List Int) (hD : ∀ d ∈ D, 0 ≤ d ∧ d ≤ 40) (hA : A.length ≤ 1048576) : Q9V D A = some (insM D A) := by
  rw [Qg0, insM]
  by_cases hl : (A.length : Int) = (D.length : Int)
  · rw [Q1K (by rw [bne_eq_false_iff_eq]; exact hl), kbeq hl, Bool.true_and]
    have hz : (A.zip D).length = A.length := by rw [List.length_zip]; omega
    have k := Q0s (A.zip D) (fun p => inr p.1 0 (p.2 - 1)) (fun i => Q3I D A (i : Int)) false (fun i x hx hi => by
      obtain ⟨h1, h2⟩ := Qpg hx
      have h3 := hD _ (Qo h2)
      rw [Q8N, Qj (by omega), Qg h1, Q0, Qg h2, Q0, Qq (by omega) (by omega), Q02, Q0, Q1Q, Qh (by omega)])
    rw [show Q3I D A 0 = _ from k, hz, Q8N, Qi (by omega), Qu, Bool.and_true]; rfl
  · rw [Qe (by rw [bne_iff_ne]; exact hl), kbne hl, Bool.false_and]
theorem Qhi (D A : List Int) (hD : ∀ d ∈ D, 0 ≤ d ∧ d ≤ 40) (hA : A.length ≤ 1048576) : Qd8 D A = some (insM D A) := by
  rw [QiQ, insM]
  by_cases hl : (A.length : Int) = (D.length : Int)
  · rw [Q1K (by rw [bne_eq_false_iff_eq]; exact hl), kbeq hl, Bool.true_and]
    have hz : (A.zip D).length = A.length := by rw [List.length_zip]; omega
    have k := Q0s (A.zip D) (fun p => inr p.1 0 (p.2 - 1)) (fun i => Q5s D A (A.length : Int) (i : Int)) false (fun i x hx hi => by
      obtain ⟨h1, h2⟩ := Qpg hx
      have h3 := hD _ (Qo h2)
      rw [Qbc, Qj (by omega), Qg h1, Q0, Qg h2, Q0, Qq (by omega) (by omega), QZ, Q0, Q1Q, Qh (by omega)])
    rw [show Q5s D A (A.length : Int) 0 = _ from k, hz, Qbc, Qi (by omega), Qu, Bool.and_true]; rfl
  · rw [Qe (by rw [bne_iff_ne]; exact hl), kbne hl, Bool.false_and]
/-! selL -/
/-! selections -/
theorem Qdw {α β : Type} {A : List α} {D : List β} {i : Nat} {x : α × β} (h : (A.zip D)[i]? = some x) : A[i]? = some x.1 ∧ D[i]? = some x.2 := by
  rw [List.getElem?_zip_eq_some] at h; exact h
def qz (a b c d : List Int) : List (Int × Int × Int × Int) := a.zip (b.zip (c.zip d))
def enQ (x : Int × Int × Int × Int) : Int := x.1 + (x.2.2.1 - 1) * x.2.1 + x.2.2.2
def slQ (x : Int × Int × Int × Int) : Bool := inr x.1 0 40 && (inr x.2.2.1 1 40 && (inr x.2.2.2 1 40 && (inr x.2.1 x.2.2.2 40 && decide (enQ x ≤ 40))))
def QfH (a b c d : List Int) : Bool := decide ((a.length : Int) ≤ 3) && (((b.length : Int) == (a.length : Int)) && (((c.length : Int) == (a.length : Int)) && (((d.length : Int) == (a.length : Int)) && (qz a b c d).all slQ)))
def QdO (a b c d : List Int) : Bool := ((a.length : Int) == 0) && (((b.length : Int) == 0) && (((c.length : Int) == 0) && ((d.length : Int) == 0)))
def ptQ (n : Nat) (p : List Int) : Bool := ((p.length : Int) == (n : Int)) && p.all (fun x => inr x 0 39)
def ptsM : List (List Int) → Bool
  | [] => false
  | q :: r => decide (((q :: r).length : Int) ≤ 24) && (decide ((q.length : Int) ≤ 3) && (q :: r).all (ptQ q.length))
def Q2g (k : Int) (a b c d : List Int) (P : List (List Int)) : Bool :=
  if k = 1 ∨ k = 2 then QdO a b c d && ((P.length : Int) == 0) else if k = 3 then QfH a b c d && ((P.length : Int) == 0) else if k = 4 then QdO a b c d && ptsM P else false
def fitM (D : List Int) (k : Int) (a b c d : List Int) (P : List (List Int)) : Bool :=
  if k = 3 then ((a.length : Int) == (D.length : Int)) && ((qz a b c d).zip D).all (fun x => decide (enQ x.1 ≤ x.2)) else if k = 4 then P.all (insM D) else true
theorem Qle {a b c d : List Int} {i : Nat} {x : Int × Int × Int × Int} (h : (qz a b c d)[i]? = some x) : a[i]? = some x.1 ∧ b[i]? = some x.2.1 ∧ c[i]? = some x.2.2.1 ∧ d[i]? = some x.2.2.2 := by
  unfold qz at h
  obtain ⟨h1, h2⟩ := Qdw (A := a) (D := b.zip (c.zip d)) h
  obtain ⟨h3, h4⟩ := Qdw h2
  obtain ⟨h5, h6⟩ := Qdw h4
  exact ⟨h1, h3, h5, h6⟩
theorem QhZ {a b c d : List Int} (hb : b.length = a.length) (hc : c.length = a.length) (hd : d.length = a.length) : (qz a b c d).length = a.length := by
  unfold qz; rw [List.length_zip, List.length_zip, List.length_zip]; omega
theorem QnP {x1 x2 x3 x4 : Int} (h1 : 0 ≤ x1 ∧ x1 ≤ 40) (h2 : 1 ≤ x2 ∧ x2 ≤ 40) (h3 : 0 ≤ x3 ∧ x3 ≤ 40) (h4 : 1 ≤ x4 ∧ x4 ≤ 40) : 0 ≤ (x2 - 1) * x3 ∧ (x2 - 1) * x3 ≤ 1600 ∧ wi64 ((wi64 (x1 + (wi64 ((wi64 (x2 - 1)) * x3)))) + x4) = x1 + (x2 - 1) * x3 + x4 := by
  have e1 : 0 ≤ (x2 - 1) * x3 := Int.mul_nonneg (by omega) h3.1
  have e2 : (x2 - 1) * x3 ≤ 40 * 40 := Int.mul_le_mul (by omega) h3.2 h3.1 (by decide)
  refine ⟨e1, by omega, ?_⟩
  rw [Qq (n := x2 - 1) (by omega) (by omega), Qq (n := (x2 - 1) * x3) (by omega) (by omega), Qq (n := x1 + _) (by omega) (by omega), Qq (by omega) (by omega)]
theorem Qpu {x : Int × Int × Int × Int} (h : slQ x = true) : (0 ≤ x.1 ∧ x.1 ≤ 40) ∧ (1 ≤ x.2.2.1 ∧ x.2.2.1 ≤ 40) ∧ (1 ≤ x.2.2.2 ∧ x.2.2.2 ≤ 40) ∧ (x.2.2.2 ≤ x.2.1 ∧ x.2.1 ≤ 40) ∧ enQ x ≤ 40 := by
  unfold slQ at h
  simp only [Bool.and_eq_true, Q0j, decide_eq_true_eq] at h
  exact h
theorem Qeu {k : Int} {a b c d : List Int} {P : List (List Int)} {i : Nat} {x : Int × Int × Int × Int} (h : (qz a b c d)[i]? = some x) (h1 : 0 ≤ x.1 ∧ x.1 ≤ 40) (h2 : 1 ≤ x.2.2.1 ∧ x.2.2.1 ≤ 40) (h3 : 0 ≤ x.2.1 ∧ x.2.1 ≤ 40) (h4 : 1 ≤ x.2.2.2 ∧ x.2.2.2 ≤ 40) : Qao k a b c d P (i : Int) = some (enQ x) := by
  obtain ⟨g1, g2, g3, g4⟩ := Qle h
  rw [QjE, Qg g1, Q0, Qg g3, Q0, Qg g2, Q0, Qg g4, Q0, (QnP h1 h2 h3 h4).2.2]; rfl
theorem Qex {k : Int} {a b c d : List Int} {P : List (List Int)} {i : Nat} {x : Int × Int × Int × Int} (h : (qz a b c d)[i]? = some x) (h1 : 0 ≤ x.1 ∧ x.1 ≤ 40) (h2 : 1 ≤ x.2.2.1 ∧ x.2.2.1 ≤ 40) (h3 : 0 ≤ x.2.1 ∧ x.2.1 ≤ 40) (h4 : 1 ≤ x.2.2.2 ∧ x.2.2.2 ≤ 40) : Q4Q k a b c d P (i : Int) = some (enQ x) := by
  obtain ⟨g1, g2, g3, g4⟩ := Qle h
  rw [QdG, Qg g1, Q0, Qg g3, Q0, Qg g2, Q0, Qg g4, Q0, (QnP h1 h2 h3 h4).2.2]; rfl
theorem Q69 {R : Type} {b : Bool} (h : b = false) (x y : Option R) : sif b x y = y := by rw [h]; rfl
theorem Qjy (k : Int) (a b c d : List Int) (P : List (List Int)) (hn : a.length ≤ 3) (hb : b.length = a.length) (hc : c.length = a.length) (hd : d.length = a.length) : Q3w (a.length : Int) 0 k a b c d P = some ((qz a b c d).all slQ) := by
  have hz := QhZ hb hc hd
  have kk := Q0s (qz a b c d) slQ (fun i => Q3w (a.length : Int) (i : Int) k a b c d P) false (fun i x hx hi => by
    obtain ⟨g1, g2, g3, g4⟩ := Qle hx
    rw [QaG, Qj (by omega), Qg g1, Q0, Q02, Q0, Qg g3, Q0, Q02, Q0, Qg g4, Q0, Q02, Q0, Qg g2, Q0, Q0, Q02, Q0, Qh (by omega), slQ]
    cases c1 : inr x.1 0 40 with
    | false => rfl
    | true =>
      cases c2 : inr x.2.2.1 1 40 with
      | false => rfl
      | true =>
        cases c3 : inr x.2.2.2 1 40 with
        | false => rfl
        | true =>
          cases c4 : inr x.2.1 x.2.2.2 40 with
          | false => rfl
          | true =>
            rw [Q0j] at c1 c2 c3 c4
            rw [Qeu hx c1 c2 (by omega) c3, Q0, Bool.not_true, Qb, Qb, Qb, Qb, Bool.true_and, Bool.true_and, Bool.true_and, Bool.true_and]
            by_cases c5 : enQ x > 40
            · rw [Qj c5, decide_eq_false (by omega), Qb]
            · rw [Qi c5, decide_eq_true (show enQ x ≤ 40 by omega), Qf])
  rw [show Q3w (a.length : Int) 0 k a b c d P = _ from kk, hz, QaG, Qi (by omega), Qu, Bool.and_true]
theorem Qjm (k : Int) (a b c d : List Int) (P : List (List Int)) (hn : a.length ≤ 3) (hb : b.length = a.length) (hc : c.length = a.length) (hd : d.length = a.length) : Q0y (a.length : Int) 0 k a b c d P = some ((qz a b c d).all slQ) := by
  have hz := QhZ hb hc hd
  have kk := Q0s (qz a b c d) slQ (fun i => Q0y (a.length : Int) (i : Int) k a b c d P) false (fun i x hx hi => by
    obtain ⟨g1, g2, g3, g4⟩ := Qle hx
    rw [Q4p, Qj (by omega), Qg g1, Q0, QZ, Q0, Qg g3, Q0, QZ, Q0, Qg g4, Q0, QZ, Q0, Qg g2, Q0, Q0, QZ, Q0, Qh (by omega), slQ]
    cases c1 : inr x.1 0 40 with
    | false => rfl
    | true =>
      cases c2 : inr x.2.2.1 1 40 with
      | false => rfl
      | true =>
        cases c3 : inr x.2.2.2 1 40 with
        | false => rfl
        | true =>
          cases c4 : inr x.2.1 x.2.2.2 40 with
          | false => rfl
          | true =>
            rw [Q0j] at c1 c2 c3 c4
            rw [Qex hx c1 c2 (by omega) c3, Q0, Bool.not_true, Qb, Qb, Qb, Qb, Bool.true_and, Bool.true_and, Bool.true_and, Bool.true_and]
            by_cases c5 : enQ x > 40
            · rw [Qj c5, decide_eq_false (by omega), Qb]
            · rw [Qi c5, decide_eq_true (show enQ x ≤ 40 by omega), Qf])
  rw [show Q0y (a.length : Int) 0 k a b c d P = _ from kk, hz, Q4p, Qi (by omega), Qu, Bool.and_true]
theorem Qjc (k : Int) (a b c d : List Int) (P : List (List Int)) : Q8R k a b c d P = some (QfH a b c d && ((P.length : Int) == 0)) := by
  rw [QhW, QfH]
  by_cases h1 : (a.length : Int) > 3
  · rw [Qj h1, decide_eq_false (by omega), Bool.false_and, Bool.false_and]
  rw [Qi h1, decide_eq_true (show (a.length : Int) ≤ 3 by omega), Bool.true_and]
  by_cases h2 : (b.length : Int) = (a.length : Int)
  rotate_left
  · rw [Qe (by rw [bne_iff_ne]; exact h2), kbne h2, Bool.false_and, Bool.false_and]
  rw [Q69 (by rw [bne_eq_false_iff_eq]; exact h2), kbeq h2, Bool.true_and]
  by_cases h3 : (c.length : Int) = (a.length : Int)
  rotate_left
  · rw [Qe (by rw [bne_iff_ne]; exact h3), kbne h3, Bool.false_and, Bool.false_and]
  rw [Q69 (by rw [bne_eq_false_iff_eq]; exact h3), kbeq h3, Bool.true_and]
  by_cases h4 : (d.length : Int) = (a.length : Int)
  rotate_left
  · rw [Qe (by rw [bne_iff_ne]; exact h4), kbne h4, Bool.false_and, Bool.false_and]
  rw [Q69 (by rw [bne_eq_false_iff_eq]; exact h4), kbeq h4, Bool.true_and]
  by_cases h5 : (P.length : Int) > 0
  · rw [Qj h5, kbne (by omega), Bool.and_false]
  rw [Qi h5, kbeq (by omega), Bool.and_true, Qjy k a b c d P (by omega) (by omega) (by omega) (by omega)]
theorem Qjr (k : Int) (a b c d : List Int) (P : List (List Int)) : Q2w k a b c d P = some (QfH a b c d) := by
  rw [Q9X, QfH]
  by_cases h1 : (a.length : Int) > 3
  · rw [Qj h1, decide_eq_false (by omega), Bool.false_and]
  rw [Qi h1, decide_eq_true (show (a.length : Int) ≤ 3 by omega), Bool.true_and]
  by_cases h2 : (b.length : Int) = (a.length : Int)
  rotate_left
  · rw [Qe (by rw [bne_iff_ne]; exact h2), kbne h2, Bool.false_and]
  rw [Q69 (by rw [bne_eq_false_iff_eq]; exact h2), kbeq h2, Bool.true_and]
  by_cases h3 : (c.length : Int) = (a.length : Int)
  rotate_left
  · rw [Qe (by rw [bne_iff_ne]; exact h3), kbne h3, Bool.false_and]
  rw [Q69 (by rw [bne_eq_false_iff_eq]; exact h3), kbeq h3, Bool.true_and]
  by_cases h4 : (d.length : Int) = (a.length : Int)
  rotate_left
  · rw [Qe (by rw [bne_iff_ne]; exact h4), kbne h4, Bool.false_and]
  rw [Q69 (by rw [bne_eq_false_iff_eq]; exact h4), kbeq h4, Bool.true_and, Qjm k a b c d P (by omega) (by omega) (by omega) (by omega)]
theorem Qne (P : List (List Int)) (hP : P.length ≤ 24) (i : Nat) (p : List Int) (hp : P[i]? = some p) (hl : p.length ≤ 3) : Q2M P (i : Int) 0 = sif (p.all (fun x => inr x 0 39)) (Q2O P ((i + 1 : Nat) : Int)) (some false) := by
  have hlt := (List.getElem?_eq_some_iff.1 hp).1
  have kk := Q0s p (fun x => inr x 0 39) (fun j => Q2M P (i : Int) (j : Int)) false (fun j x hx hj => by
    rw [Q8U, Qg hp, Q0, Qj (by omega), Q0, Qg hx, Q0, Q02, Q0, Qh (by omega), Q1Q])
  rw [show Q2M P (i : Int) 0 = _ from kk, Q8U, Qg hp, Q0, Qi (by omega), Qh (by omega)]
theorem Qku (P : List (List Int)) : Q7B P = some (ptsM P) := by
  rw [QfW, Q02, Q0]
  cases P with
  | nil => rfl
  | cons q r =>
    rw [ptsM]
    by_cases h1 : ((q :: r).length : Int) ≤ 24
    rotate_left
    · rw [decide_eq_false h1, Bool.false_and, show inr ((q :: r).length : Int) 1 24 = false by rw [← Bool.not_eq_true, Q0j]; omega]; rfl
    rw [decide_eq_true h1, Bool.true_and, show inr ((q :: r).length : Int) 1 24 = true by rw [Q0j]; simp only [List.length_cons] at h1 ⊢; omega, Bool.not_true, Qb]
    have h0 : idx (q :: r) 0 = some q := rfl
    have kk := Q0s (q :: r) (fun p => ((p.length : Int) == (q.length : Int)) && (decide ((p.length : Int) ≤ 3) && p.all (fun x => inr x 0 39))) (fun i => Q2O (q :: r) (i : Int)) false (fun i p hp hi => by
      rw [Q8X, Qj (by omega), Qg hp, Q0, h0, Q0, Q0]
      by_cases c1 : (p.length : Int) = (q.length : Int)
      rotate_left
      · rw [Qe (by rw [bne_iff_ne]; exact c1), kbne c1, Bool.false_and, Qb]
      rw [Q69 (by rw [bne_eq_false_iff_eq]; exact c1), kbeq c1, Bool.true_and]
      by_cases c2 : (p.length : Int) > 3
      · rw [Qj c2, decide_eq_false (by omega), Bool.false_and, Qb]
      rw [Qi c2, decide_eq_true (show (p.length : Int) ≤ 3 by omega), Bool.true_and, Qne (q :: r) (by omega) i p hp (by omega)])
    rw [show Q2O (q :: r) 0 = _ from kk, Q8X, Qi (by omega), Qu, Bool.and_true]
    congr 1
    by_cases c3 : (q.length : Int) ≤ 3
    · rw [decide_eq_true c3, Bool.true_and]
      refine all_congr_mem (fun p _ => ?_)
      rw [ptQ]
      by_cases c4 : (p.length : Int) = (q.length : Int)
      · rw [kbeq c4, decide_eq_true (by omega), Bool.true_and]
      · rw [kbne c4, Bool.false_and, Bool.false_and]
    · rw [decide_eq_false c3, Bool.false_and, List.all_cons, kbeq rfl, decide_eq_false c3, Bool.false_and, Bool.and_false, Bool.false_and]
theorem QkI (k : Int) (a b c d : List Int) (P : List (List Int)) (hP : ∀ p ∈ P, p.length ≤ 140737488351232) : Q20 k a b c d P = some (ptsM P) := by
  rw [Q9u, QZ, Q0]
  cases P with
  | nil => rfl
  | cons q r =>
    rw [ptsM]
    by_cases h1 : ((q :: r).length : Int) ≤ 24
    rotate_left
    · rw [decide_eq_false h1, Bool.false_and, show inr ((q :: r).length : Int) 1 24 = false by rw [← Bool.not_eq_true, Q0j]; omega]; rfl
    rw [decide_eq_true h1, Bool.true_and, show inr ((q :: r).length : Int) 1 24 = true by rw [Q0j]; simp only [List.length_cons] at h1 ⊢; omega, Bool.not_true, Qb, show idx (q :: r) 0 = some q from rfl, Q0]
    by_cases c3 : (q.length : Int) ≤ 3
    rotate_left
    · rw [Qi c3, decide_eq_false c3, Bool.false_and]
    rw [Qj c3, decide_eq_true c3, Bool.true_and, Q1F, Q1W]
    have kk := Q5V (Q4M (q :: r) (fun p => !ptQ q.length p) (fun i => QF (q :: r) ((q :: r).length : Int) i (q.length : Int)) (by rw [Q0k, Qi (by omega)]) (fun i p hp hi => by
      rw [Q0k, Qj (by omega), Qg hp, Q0, Q8q, Qh (by omega), ptQ]
      by_cases c4 : (p.length : Int) = (q.length : Int)
      · rw [Q69 (by rw [bne_eq_false_iff_eq]; exact c4), Q7s p 0 39 (by omega), Q0, Q0, kbeq c4, Bool.true_and]
      · rw [Qe (by rw [bne_iff_ne]; exact c4), Q0, kbne c4, Bool.false_and, Bool.not_false]))
    rw [kk, Q0, Q6h]
    congr 1
    exact all_congr_mem (fun p _ => by rw [Bool.not_not])
theorem Q7u (k : Int) (a b c d : List Int) (P : List (List Int)) : Q3W k a b c d P = some (Q2g k a b c d P) := by
  have pl : Q4z k a b c d P = some (QdO a b c d) := by rw [Qhh, Qu, Qu, Qu]; rfl
  rw [QfV, pl, Qjc, Qku, Q2g]
  simp only [Q0, Qu]
  by_cases k1 : k = 1
  · subst k1; rfl
  rw [kbne k1, Qb]
  by_cases k2 : k = 2
  · subst k2; rfl
  rw [kbne k2, Qb, if_neg (by omega)]
  by_cases k3 : k = 3
  · rw [kbeq k3, Qf, if_pos k3]
  rw [kbne k3, Qb, if_neg k3]
  by_cases k4 : k = 4
  · rw [kbeq k4, if_pos k4, Bool.true_and]
  · rw [kbne k4, if_neg k4, Bool.false_and]
theorem QoQ (k : Int) (a b c d : List Int) (P : List (List Int)) : eqB ((k, [], [], [], [], P) : SelK) (k, a, b, c, d, P) = QdO a b c d := by
  rw [Bool.eq_iff_iff, Q37, QdO]
  simp only [Bool.and_eq_true, beq_iff_eq, Prod.mk.injEq, true_and, and_true]
  constructor
  · rintro ⟨rfl, rfl, rfl, rfl⟩; simp
  · rintro ⟨h1, h2, h3, h4⟩
    exact ⟨(List.length_eq_zero_iff.1 (by omega)).symm, (List.length_eq_zero_iff.1 (by omega)).symm, (List.length_eq_zero_iff.1 (by omega)).symm, (List.length_eq_zero_iff.1 (by omega)).symm⟩
theorem Q9S (k : Int) (a b c d : List Int) (P : List (List Int)) (h : Q6X ((k, a, b, c, d, P) : SelK)) : Q17 k a b c d P = some (Q2g k a b c d P) := by
  have hs := Q8O ((k, [], [], [], [], P) : SelK) (k, a, b, c, d, P) ⟨by simp [Q0q], by simp [Q0q], by simp [Q0q], by simp [Q0q], h.2.2.2.2.1, h.2.2.2.2.2⟩
  dsimp only at hs
  rw [Qcm, hs, Q0, QoQ, Qjr, QkI _ _ _ _ _ _ h.2.2.2.2.2, Q2g]
  simp only [Q0, Qu]
  by_cases k1 : k = 1
  · subst k1; rfl
  rw [kbne k1, Qb]
  by_cases k2 : k = 2
  · subst k2; rfl
  rw [kbne k2, Qb, if_neg (by omega)]
  by_cases k3 : k = 3
  · rw [kbeq k3, Qf, if_pos k3, Bool.and_comm]
  rw [kbne k3, Qb, if_neg k3]
  by_cases k4 : k = 4
  · rw [kbeq k4, if_pos k4, Bool.true_and]
  · rw [kbne k4, if_neg k4, Bool.false_and]
theorem QaL {k : Int} {a b c d : List Int} {P : List (List Int)} (h : Q2g k a b c d P = true) (hk : k = 3) : a.length ≤ 3 ∧ b.length = a.length ∧ c.length = a.length ∧ d.length = a.length ∧ P = [] ∧ (qz a b c d).all slQ = true := by
  rw [Q2g, if_neg (by omega), if_pos hk, Bool.and_eq_true, QfH] at h
  simp only [Bool.and_eq_true, decide_eq_true_eq, beq_iff_eq] at h
  exact ⟨by omega, by omega, by omega, by omega, List.length_eq_zero_iff.1 (by omega), h.1.2.2.2.2⟩
theorem QbT {k : Int} {a b c d : List Int} {P : List (List Int)} (h : Q2g k a b c d P = true) (hk : k = 4) : QdO a b c d = true ∧ ptsM P = true := by
  rwa [Q2g, if_neg (by omega), if_neg (by omega), if_pos hk, Bool.and_eq_true] at h
theorem Qf5 {P : List (List Int)} (h : ptsM P = true) : ∃ q r, P = q :: r ∧ P.length ≤ 24 ∧ q.length ≤ 3 ∧ ∀ p ∈ P, p.length = q.length ∧ ∀ x ∈ p, 0 ≤ x ∧ x ≤ 39 := by
  cases P with
  | nil => cases h
  | cons q r =>
    rw [ptsM] at h
    simp only [Bool.and_eq_true, decide_eq_true_eq] at h
    refine ⟨q, r, rfl, by omega, by omega, fun p hp => ?_⟩
    have := List.all_eq_true.1 h.2.2 p hp
    rw [ptQ, Bool.and_eq_true, beq_iff_eq] at this
    exact ⟨by omega, fun x hx => Q0j.1 (List.all_eq_true.1 this.2 x hx)⟩
theorem Ql1 (D : List Int) (hD : D.length ≤ 3) (k : Int) (a b c d : List Int) (P : List (List Int)) (hb : b.length = a.length) (hc : c.length = a.length) (hd : d.length = a.length) (ha : a.length = D.length) (hq : (qz a b c d).all slQ = true) : Q3a D 0 k a b c d P = some (((qz a b c d).zip D).all (fun x => decide (enQ x.1 ≤ x.2))) := by
  have hz := QhZ hb hc hd
  have hz2 : ((qz a b c d).zip D).length = D.length := by rw [List.length_zip]; omega
  have kk := Q0s ((qz a b c d).zip D) (fun x => decide (enQ x.1 ≤ x.2)) (fun i => Q3a D (i : Int) k a b c d P) false (fun i x hx hi => by
    obtain ⟨g1, g2⟩ := Qdw hx
    have hx1 := Qpu (List.all_eq_true.1 hq _ (Qo g1))
    rw [Q9w, Qj (by omega), Qeu g1 hx1.1 hx1.2.1 (by omega) hx1.2.2.1, Q0, Qg g2, Q0, Qh (by omega)]
    by_cases c5 : enQ x.1 > x.2
    · rw [Qj c5, decide_eq_false (by omega), Qb]
    · rw [Qi c5, decide_eq_true (show enQ x.1 ≤ x.2 by omega), Qf])
  rw [show Q3a D 0 k a b c d P = _ from kk, hz2, Q9w, Qi (by omega), Qu, Bool.and_true]
theorem Qkr (D : List Int) (hD : D.length ≤ 3) (k : Int) (a b c d : List Int) (P : List (List Int)) (hb : b.length = a.length) (hc : c.length = a.length) (hd : d.length = a.length) (ha : a.length = D.length) (hq : (qz a b c d).all slQ = true) : Q1n D (D.length : Int) 0 k a b c d P = some (((qz a b c d).zip D).all (fun x => decide (enQ x.1 ≤ x.2))) := by
  have hz := QhZ hb hc hd
  have hz2 : ((qz a b c d).zip D).length = D.length := by rw [List.length_zip]; omega
  have kk := Q0s ((qz a b c d).zip D) (fun x => decide (enQ x.1 ≤ x.2)) (fun i => Q1n D (D.length : Int) (i : Int) k a b c d P) false (fun i x hx hi => by
    obtain ⟨g1, g2⟩ := Qdw hx
    have hx1 := Qpu (List.all_eq_true.1 hq _ (Qo g1))
    rw [Q6B, Qj (by omega), Qg g2, Q0, Qex g1 hx1.1 hx1.2.1 (by omega) hx1.2.2.1, Q0, Qh (by omega)]
    by_cases c5 : enQ x.1 > x.2
    · rw [Qj c5, decide_eq_false (by omega), Qb]
    · rw [Qi c5, decide_eq_true (show enQ x.1 ≤ x.2 by omega), Qf])
  rw [show Q1n D (D.length : Int) 0 k a b c d P = _ from kk, hz2, Q6B, Qi (by omega), Qu, Bool.and_true]
theorem QlQ (D : List Int) (hD : ∀ d ∈ D, 0 ≤ d ∧ d ≤ 40) (k : Int) (a b c d : List Int) (P : List (List Int)) (hP : P.length ≤ 24) (hp : ∀ p ∈ P, p.length ≤ 3) : Q2Q D 0 k a b c d P = some (P.all (insM D)) := by
  have kk := Q0s P (insM D) (fun i => Q2Q D (i : Int) k a b c d P) false (fun i x hx hi => by
    have := hp x (Qo hx)
    rw [Q94, Qj (by omega), Qg hx, Q0, Qhl D x hD (by omega), Q0, Q1Q, Qh (by omega)])
  rw [show Q2Q D 0 k a b c d P = _ from kk, Q94, Qi (by omega), Qu, Bool.and_true]
theorem QlG (D : List Int) (hD : ∀ d ∈ D, 0 ≤ d ∧ d ≤ 40) (P : List (List Int)) (hP : P.length ≤ 24) (hp : ∀ p ∈ P, p.length ≤ 3) : Q07 P D = some (!P.all (insM D)) := by
  rw [Q2k, Q2z]
  have kk := Q5V (Q4M P (fun p => !insM D p) (fun i => QP P (P.length : Int) i D) (by rw [Q0E, Qi (by omega)]) (fun i p hx hi => by
    have := hp p (Qo hx)
    rw [Q0E, Qj (by omega), Qg hx, Q0, Qca, Qhi D p hD (by omega), Q0, Q0, Qh (by omega)]))
  rw [kk]
  congr 1
  rw [← Bool.not_not (P.any fun p => !insM D p), Q6h]
  congr 1
  exact all_congr_mem (fun p _ => by rw [Bool.not_not])
theorem QkP (D : List Int) (k : Int) (a b c d : List Int) (P : List (List Int)) : Qb2 D k a b c d P = some (Q2b D && (Q2g k a b c d P && fitM D k a b c d P)) := by
  rw [QgU, Q3X, Q0, Q7u, Q0]
  cases hd : Q2b D with
  | false => rfl
  | true =>
    obtain ⟨d1, d2, d3⟩ := Q6d hd
    cases hf : Q2g k a b c d P with
    | false => rfl
    | true =>
      rw [Bool.not_true, Qb, Qb, Bool.true_and, Bool.true_and, fitM]
      by_cases k3 : k = 3
      · obtain ⟨f1, f2, f3, f4, f5, f6⟩ := QaL hf k3
        rw [kbeq k3, Qf, if_pos k3]
        by_cases hl : (a.length : Int) = (D.length : Int)
        · rw [Q69 (by rw [bne_eq_false_iff_eq]; exact hl), kbeq hl, Bool.true_and, Ql1 D d1 k a b c d P f2 f3 f4 (by omega) f6]
        · rw [Qe (by rw [bne_iff_ne]; exact hl), kbne hl, Bool.false_and]
      rw [kbne k3, Qb, if_neg k3]
      by_cases k4 : k = 4
      · obtain ⟨_, h4⟩ := QbT hf k4
        obtain ⟨q, r, h5, h6, h7, h8⟩ := Qf5 h4
        rw [kbeq k4, Qf, if_pos k4, QlQ D d2 k a b c d P h6 (fun p hp => by rw [(h8 p hp).1]; exact h7)]
      · rw [kbne k4, Qb, if_neg k4]
theorem Qj0 (D : List Int) (hd : Q2b D = true) (k : Int) (a b c d : List Int) (P : List (List Int)) (hf : Q2g k a b c d P = true) : Q6l k a b c d P D = some (fitM D k a b c d P) := by
  obtain ⟨d1, d2, d3⟩ := Q6d hd
  rw [QcY, fitM]
  by_cases k3 : k = 3
  · obtain ⟨f1, f2, f3, f4, f5, f6⟩ := QaL hf k3
    rw [kbeq k3, Qf, if_pos k3]
    by_cases hl : (a.length : Int) = (D.length : Int)
    · rw [Q69 (by rw [bne_eq_false_iff_eq]; exact hl), kbeq hl, Bool.true_and, Qkr D d1 k a b c d P f2 f3 f4 (by omega) f6]
    · rw [Qe (by rw [bne_iff_ne]; exact hl), kbne hl, Bool.false_and]
  rw [kbne k3, Qb, if_neg k3]
  by_cases k4 : k = 4
  · obtain ⟨_, h4⟩ := QbT hf k4
    obtain ⟨q, r, h5, h6, h7, h8⟩ := Qf5 h4
    rw [kbeq k4, Qf, if_pos k4, QlG D d2 P h6 (fun p hp => by rw [(h8 p hp).1]; exact h7), Q0, Bool.not_not]
  · rw [kbne k4, Qb, if_neg k4]
/-! pathL -/
/-! paths -/
def ix : List Int → Option Nat
  | [] => none
  | x :: r => if x = 47 then some 0 else (ix r).map (· + 1)
theorem QnJ : ∀ {t : List Int}, ix t = none → ∀ x ∈ t, x ≠ 47
  | [], _, x, hx => by cases hx
  | y :: r, h, x, hx => by
    rw [ix] at h
    by_cases hy : y = 47
    · rw [if_pos hy] at h; cases h
    · rw [if_neg hy, Option.map_eq_none_iff] at h
      rcases List.mem_cons.1 hx with rfl | hx
      · exact hy
      · exact QnJ h x hx
theorem QiZ : ∀ {t : List Int} {o : Nat}, ix t = some o → t[o]? = some 47 ∧ ∀ (j : Nat) x, j < o → t[j]? = some x → x ≠ 47
  | [], _, h => by cases h
  | y :: r, o, h => by
    rw [ix] at h
    by_cases hy : y = 47
    · rw [if_pos hy] at h; cases h; exact ⟨by rw [hy]; rfl, fun j x hj => absurd hj (Nat.not_lt_zero _)⟩
    · rw [if_neg hy, Option.map_eq_some_iff] at h
      obtain ⟨o', h1, rfl⟩ := h
      obtain ⟨h2, h3⟩ := QiZ h1
      refine ⟨by simpa using h2, fun j x hj hx => ?_⟩
      cases j with
      | zero => simp only [List.getElem?_cons_zero, Option.some.injEq] at hx; rw [← hx]; exact hy
      | succ j => exact h3 j x (by omega) (by simpa using hx)
def segI : Nat → List Int → List (List Int)
  | 0, t => [t]
  | n + 1, t => match ix t with
    | none => [t]
    | some o => t.take o :: segI n (t.drop (o + 1))
def nmI (w : List Int) : Bool := isNm (toB w)
def finP (out : List ByteArray) (ws : List (List Int)) : Bool × List ByteArray := if ws.all nmI = true then (if out.length + ws.length > 6 then (false, []) else (true, out ++ ws.map toB)) else (false, [])
theorem Qfj (l : List Int) (a b : Nat) : (toB l).extract a b = toB ((l.drop a).take (b - a)) := by rw [Qgv, List.drop_take]
theorem Q9b (l : List Int) (hl : inB l) (hn : l.length ≤ 1048576) (f : Nat) (out : List ByteArray) : ∀ (n i i0 : Nat), i0 = i + n → i0 ≤ l.length → (∀ j x, i ≤ j → j < i0 → l[j]? = some x → x ≠ 47) → Q1c (toB l) (f : Int) (i : Int) out = Q1c (toB l) (f : Int) (i0 : Int) out
  | 0, i, i0, h, _, _ => by rw [show i0 = i by omega]
  | n + 1, i, i0, h, h0, hx => by
    have hlt : i < l.length := by omega
    have hb : l[i]? = some l[i] := List.getElem?_eq_getElem hlt
    have h47 := hx i _ (Nat.le_refl _) (by omega) hb
    rw [Q30, Qz, Qj (by omega), Qj (by omega), Q6O hl (by omega), Int.toNat_natCast, hb, Q0, Qe (by rw [bne_iff_ne]; exact h47), Qh (by omega)]
    exact Q9b l hl hn f out n (i + 1) i0 (by omega) h0 (fun j x h1 h2 h3 => hx j x (by omega) h2 h3)
theorem Qi0 (l : List Int) (hl : inB l) (hn : l.length ≤ 1048576) : ∀ (n f : Nat) (out : List ByteArray), f ≤ l.length → l.length - f ≤ n → out.length ≤ f → Q1c (toB l) (f : Int) (f : Int) out = some (finP out (segI n (l.drop f))) := by
  intro n
  induction n with
  | zero =>
    intro f out hf h0 ho
    obtain rfl : f = l.length := by omega
    rw [List.drop_length, Q30, Qz, Qj (by omega), Qi (by omega), Qe (Q0n (by omega) (by omega)), Qe (Q0n (by omega) (by omega)), Int.toNat_natCast, Qfj, Nat.sub_self, List.take_zero, Q2j, Q0, finP, segI]
    have hz : isNm (toB []) = false := rfl
    rw [hz, Bool.not_false, Qf, if_neg (by show ¬ (nmI [] && true) = true; unfold nmI; rw [hz]; simp)]
  | succ n ih =>
    intro f out hf h0 ho
    cases hix : ix (l.drop f) with
    | none =>
      have hno := QnJ hix
      rw [Q9b l hl hn f out (l.length - f) f l.length (by omega) (Nat.le_refl _) (fun j x h1 h2 h3 => hno x (List.mem_of_getElem? (i := j - f) (by rw [List.getElem?_drop, show f + (j - f) = j by omega]; exact h3)))]
      rw [Q30, Qz, Qj (by omega), Qi (by omega), Qe (Q0n (by omega) (by omega)), Qe (Q0n (by omega) (by omega)), Int.toNat_natCast, Int.toNat_natCast, Qfj, Q2j, Q0, show segI (n + 1) (l.drop f) = [l.drop f] by rw [segI, hix], List.take_of_length_le (by rw [List.length_drop]; exact Nat.le_refl _)]
      show sif (!nmI (l.drop f)) _ _ = some (if (nmI (l.drop f) && true) = true then (if out.length + 1 > 6 then (false, []) else (true, out ++ [toB (l.drop f)])) else (false, []))
      rw [Bool.and_true]
      cases hnm : nmI (l.drop f) with
      | false => rfl
      | true =>
        rw [Bool.not_true, Qb, Qe (Q0n (by omega) (by omega)), Qe (Q0n (by omega) (by omega)), Qe (Q38 (by omega)), Qh (by omega), Q30, Qz, Qi (by omega), if_pos rfl, List.length_append, List.length_singleton]
        by_cases h6 : out.length + 1 > 6
        · rw [Qj (by omega), if_pos h6]
        · rw [Qi (by omega), if_neg h6]
    | some o =>
      obtain ⟨g1, g2⟩ := QiZ hix
      have ho1 : f + o < l.length := by
        have := (List.getElem?_eq_some_iff.1 g1).1
        rw [List.length_drop] at this; omega
      have g3 : l[f + o]? = some 47 := by rw [List.getElem?_drop] at g1; exact g1
      rw [Q9b l hl hn f out o f (f + o) rfl (by omega) (fun j x h1 h2 h3 => g2 (j - f) x (by omega) (by rw [List.getElem?_drop, show f + (j - f) = j by omega]; exact h3))]
      have hnext := ih (f + o + 1) (out ++ [toB ((l.drop f).take o)]) (by omega) (by omega) (by rw [List.length_append, List.length_singleton]; omega)
      rw [Q30, Qz, Qj (by omega), Qj (by omega), Q6O hl (by omega), Int.toNat_natCast, g3, Q0, Q1K (by rfl), Qe (Q0n (by omega) (by omega)), Qe (Q0n (by omega) (by omega)), Int.toNat_natCast, Qfj, show f + o - f = o by omega, Q2j, Q0, Qh (by omega), hnext]
      have hs : segI (n + 1) (l.drop f) = (l.drop f).take o :: segI n ((l.drop f).drop (o + 1)) := by rw [segI, hix]
      rw [hs, List.drop_drop, show f + (o + 1) = f + o + 1 by omega]
      unfold finP
      rw [List.all_cons]
      show sif (!nmI ((l.drop f).take o)) _ _ = _
      cases hnm : nmI ((l.drop f).take o) with
      | false => rfl
      | true =>
        rw [Bool.not_true, Qb, Qe (Q0n (by omega) (by omega)), Qe (Q0n (by omega) (by omega)), Qe (Q38 (by omega)), Bool.true_and, List.length_append, List.length_singleton, List.length_cons, List.map_cons, List.append_assoc, show out.length + 1 + (segI n (l.drop (f + o + 1))).length = out.length + ((segI n (l.drop (f + o + 1))).length + 1) by omega]
        rfl
def Q1g : List Int → Bool
  | [] => false
  | x :: r => if x = 47 then (if r = [] then true else ((segI r.length r).all nmI && decide ((segI r.length r).length ≤ 6))) else false
theorem Qqw (ws : List (List Int)) : (finP [] ws).1 = (ws.all nmI && decide (ws.length ≤ 6)) := by
  unfold finP
  cases ws.all nmI with
  | false => rfl
  | true =>
    rw [if_pos rfl, Bool.true_and]
    by_cases h : ws.length ≤ 6
    · rw [if_neg (by simp; omega), decide_eq_true h]
    · rw [if_pos (by simp; omega), decide_eq_false h]
theorem seqL {a b : List Int} (ha : inB a) (hb : inB b) : seq (toB a) (toB b) = decide (a = b) := by
  rw [Qq2]
  congr 1
  refine propext ⟨fun h => ?_, fun h => by rw [h]⟩
  have := congrArg ofB h
  rwa [Q6j ha, Q6j hb] at this
theorem QdC (l : List Int) (hl : inB l) (hn : l.length ≤ 1048576) : Q32 (toB l) = some (Q1g l) := by
  have i47 : inB [47] := by intro x hx; rw [List.mem_singleton] at hx; omega
  have i0 : inB [] := fun x hx => by cases hx
  rw [QfZ, QgS, show bs [47] = toB [47] from rfl, show bs [] = toB [] from rfl, seqL hl i47, seqL hl i0]
  cases l with
  | nil => rfl
  | cons x r =>
    have hb : bidx (toB (x :: r)) 0 = some x := by rw [Q6O hl (by decide)]; rfl
    rw [decide_eq_false (show ¬ (x :: r) = [] by simp), Qb, hb, Q0]
    by_cases hx : x = 47
    · subst hx
      by_cases hr : r = []
      · subst hr; rfl
      · have h1 : decide ((47 :: r : List Int) = [47]) = false := decide_eq_false (by simp; exact hr)
        have k := Qi0 (47 :: r) hl hn r.length 1 [] (by simp) (by simp) (by simp)
        rw [h1, Qb, show ((47 : Int) != 47) = false from rfl, Qb, show Q1c (toB (47 :: r)) 1 1 [] = _ from k, Q0, Qqw, Q1g, if_pos rfl, if_neg hr]; rfl
    · have h1 : decide ((x :: r) = [47]) = false := decide_eq_false (by intro h; exact hx (List.cons.inj h).1)
      rw [h1, Qb, Qe (by rw [bne_iff_ne]; exact hx), Q0, Q1g, if_neg hx]
theorem b47 {x : Int} (h : 0 ≤ x ∧ x ≤ 255) : ((UInt8.ofNat x.toNat : UInt8) == 47) = decide (x = 47) := by
  rw [Bool.eq_iff_iff, beq_iff_eq, decide_eq_true_eq]
  constructor
  · intro e
    have := congrArg UInt8.toNat e
    rw [UInt8.toNat_ofNat_of_lt' (by show x.toNat < 256; omega)] at this
    have h47 : (47 : UInt8).toNat = 47 := rfl
    omega
  · rintro rfl; rfl
theorem Qqx (l : List Int) (hl : inB l) : Lib.indexByte (l.map fun n => UInt8.ofNat n.toNat) 47 = match ix l with | none => -1 | some o => (o : Int) := by
  induction l with
  | nil => rfl
  | cons x r ih =>
    have ih := ih (fun y hy => hl y (by simp [hy]))
    rw [List.map_cons, Lib.indexByte, b47 (hl x (by simp)), ih, ix]
    by_cases hx : x = 47
    · rw [decide_eq_true hx, if_pos rfl, if_pos hx]; rfl
    · rw [decide_eq_false hx, if_neg Bool.false_ne_true, if_neg hx]
      cases ix r with
      | none => rfl
      | some o =>
        show (if ((o : Int) == -1) = true then (-1 : Int) else (o : Int) + 1) = ((o + 1 : Nat) : Int)
        rw [if_neg (by rw [beq_iff_eq]; omega)]; rfl
theorem QmB (l : List Int) (hl : inB l) : Lib.indexB (toB l) (bs [47]) = match ix l with | none => -1 | some o => (o : Int) := by
  rw [Lib.one _ _ (by rfl)]
  have e : (toB l).data.toList = l.map fun n : Int => UInt8.ofNat n.toNat := by simp [toB]
  rw [e]
  exact Qqx l hl
theorem QhT : ∀ (n : Nat) (l : List Int), inB l → l.length ≤ n → Lib.splitB (bs [47]) 0 (Lib.countB (toB l) (bs [47])) (toB l) = (segI n l).map toB
  | 0, l, hl, hn => by
    obtain rfl : l = [] := List.length_eq_zero_iff.1 (by omega)
    rw [Lib.splitB_miss _ _ _ _ (by rw [QmB [] hl]; rfl)]; rfl
  | n + 1, l, hl, hn => by
    have hb := QmB l hl
    cases hix : ix l with
    | none =>
      rw [hix] at hb
      rw [Lib.splitB_miss _ _ _ _ hb, segI, hix]; rfl
    | some o =>
      rw [hix] at hb
      obtain ⟨g1, _⟩ := QiZ hix
      have ho := (List.getElem?_eq_some_iff.1 g1).1
      have ih := QhT n (l.drop (o + 1)) (Qej hl _) (by rw [List.length_drop]; omega)
      have hsz : (bs [47]).size = 1 := rfl
      have he : (toB l).extract (o + (bs [47]).size) (toB l).size = toB (l.drop (o + 1)) := by
        rw [hsz, Qz, Qfj, List.take_of_length_le (by rw [List.length_drop]; exact Nat.le_refl _)]
      rw [Lib.countB_hit _ _ o (by rw [hsz]; exact Nat.le_refl _) hb, he, Nat.add_comm, Lib.splitB_hit _ _ _ _ o hb, he, ih, segI, hix, Qfj]
      simp
theorem QlY : ∀ (n : Nat) (l : List Int), (segI n l).length ≤ n + 1 ∧ ∀ w ∈ segI n l, w.length ≤ l.length
  | 0, l => ⟨by simp [segI], fun w hw => by simp [segI] at hw; rw [hw]; exact Nat.le_refl _⟩
  | n + 1, l => by
    rw [segI]
    cases ix l with
    | none => exact ⟨by simp, fun w hw => by simp at hw; rw [hw]; exact Nat.le_refl _⟩
    | some o =>
      obtain ⟨h1, h2⟩ := QlY n (l.drop (o + 1))
      refine ⟨by simp; omega, fun w hw => ?_⟩
      rcases List.mem_cons.1 hw with rfl | hw
      · rw [List.length_take]; omega
      · have := h2 w hw; rw [List.length_drop] at this; omega
theorem Q9l (l : List Int) (hl : inB l) (hn : l.length ≤ 1048576) : strings_Split (toB l) (bs [47]) = some ((segI l.length l).map toB) := by
  rw [Qh7, Qcc, if_pos ⟨by rw [Qz]; omega, by decide⟩, QhT l.length l hl (Nat.le_refl _)]
theorem Qiv (ws : List ByteArray) (hw : ws.length ≤ 1048577) (hs : ∀ w ∈ ws, w.size ≤ 1048576) : Q0a ws = some (!ws.all isNm) := by
  have k1 : Q0a ws = some (ws.any (fun n => !isNm n)) := by
    rw [Q3F, Q4f]
    refine Q5V (Q4M ws _ (fun i => Q09 ws (ws.length : Int) i) (by rw [Q1o, Qi (by omega)]) (fun i x hx hi => ?_))
    rw [Q1o, Qj (by omega), Qg hx, Q0, QeH, Q5I x (by have := hs x (Qo hx); omega), Q0, Q0, Qh (by omega)]
  rw [k1, QcW ws isNm _ (fun _ _ => rfl)]
theorem Qqm (x : Int) (r : List Int) (hx : 0 ≤ x ∧ x ≤ 255) : Qcg (toB (x :: r)) (bs [47]) = if x = 47 then (toB r, true) else (toB (x :: r), false) := by
  have e : (toB (x :: r)).data.toList = UInt8.ofNat x.toNat :: r.map fun n : Int => UInt8.ofNat n.toNat := by simp [toB]
  have e2 : (bs [47]).data.toList = [47] := rfl
  have hp : Lib.hasPrefix (UInt8.ofNat x.toNat :: r.map fun n : Int => UInt8.ofNat n.toNat) [47] = decide (x = 47) := by
    rw [← b47 hx]
    unfold Lib.hasPrefix
    rw [List.isPrefixOf, List.isPrefixOf, Bool.and_true, Bool.beq_comm]
  unfold Qcg
  rw [e, e2, Lib.trimPrefix, hp]
  by_cases h : x = 47
  · rw [decide_eq_true h, if_pos rfl, if_pos h]
    simp [toB]
  · rw [decide_eq_false h, if_neg Bool.false_ne_true, if_neg h]
    congr 1
theorem QdA (l : List Int) (hl : inB l) (hn : l.length ≤ 1048576) : Q0X (toB l) = some (Q1g l) := by
  have i47 : inB [47] := by intro x hx; rw [List.mem_singleton] at hx; omega
  rw [Qgf, QfM, show seq (toB l) (bs [47]) = _ from seqL hl i47]
  cases l with
  | nil =>
    rw [decide_eq_false (by simp), Qb, Q9e]
    have hc : Qcg (toB []) (bs [47]) = (toB [], false) := rfl
    rw [hc, Q0, Q9l [] hl (by simp), Q0]; rfl
  | cons x r =>
    have hx0 := hl x (by simp)
    have hr0 : inB r := fun y hy => hl y (by simp [hy])
    rw [Q9e, Qqm x r hx0, Q1g]
    by_cases hx : x = 47
    · subst hx
      rw [if_pos rfl, if_pos rfl]
      by_cases hr : r = []
      · subst hr; rfl
      · have hrl : r.length ≤ 1048576 := by rw [List.length_cons] at hn; omega
        obtain ⟨s1, s2⟩ := QlY r.length r
        rw [decide_eq_false (by simp; exact hr), Qb, Q0, if_neg hr, Q9l r hr0 hrl, Q0, Bool.not_true, Qb, List.length_map]
        by_cases h6 : (segI r.length r).length ≤ 6
        · rw [Qi (by omega), Qiv _ (by rw [List.length_map]; omega) (fun w hw => by
            obtain ⟨v, hv, rfl⟩ := List.mem_map.1 hw
            have := s2 v hv
            rw [Qz]; omega), Q0, List.all_map, decide_eq_true h6, Bool.and_true]
          show sbind (sif (!(segI r.length r).all nmI) _ _) _ = _
          cases (segI r.length r).all nmI <;> rfl
        · rw [Qj (by omega), decide_eq_false h6, Bool.and_false]; rfl
    · rw [if_neg hx, if_neg hx, decide_eq_false (by intro h; exact hx (List.cons.inj h).1), Qb, Q0, Q9l (x :: r) hl hn, Q0]; rfl
/-! bldL -/
/-! builders of texts -/
theorem Qrd (s buf : List Int) (hs : inB s) (h : buf.length + s.length ≤ 1000000000) : Q2H (toB s) buf = some ((s.length : Int), buf ++ s) := by
  rw [Q7S, Qa8, Q0, Q6j hs, Qe (Q38 (by omega)), Qz]
theorem QqF (buf : List Int) (h : buf.length ≤ 1000000000) : Q53 buf = some (toB buf) := by
  rw [Qbp]
  unfold QdW
  rw [if_pos (by omega)]
/-! mapL -/
/-! the binary form of a mapping -/
def nb (l : List Int) : List Int := l.flatMap (fun n => [wu8 n])
theorem Q0G (l : List Int) : (nb l).length = l.length := by
  unfold nb
  induction l with
  | nil => rfl
  | cons a l ih => rw [List.flatMap_cons, List.length_append, ih]; simp; omega
theorem Q1v (l : List Int) (hl : l.length ≤ 1048576) : Q1f l = some (toB (nb l)) := by
  rw [Qho]
  have k := Q7y l (fun i (o : List Int) => Q5K l (i : Int) o) (fun r o => some (toB (o ++ nb r))) (fun i o => o.length ≤ i)
    (fun o _ => by rw [Q9E, Qi (by omega)]; simp [nb])
    (fun i x r o hx hi hdr hI ih => by
      rw [Q9E, Qj (by omega), Qg hx, Q0, Qe (Q38 (by omega)), Qh (by omega), ih _ (by rw [List.length_append, List.length_singleton]; omega)]
      unfold nb; rw [List.flatMap_cons, List.append_assoc]) 0 [] (by omega) (by simp)
  exact k
theorem QdN (l : List Int) (hl : l.length ≤ 1000) : Q6s l = some (toB (nb l)) := by
  rw [QeV]
  have k := Q7y l (fun i (o : List Int) => Q4C l (l.length : Int) (i : Int) o) (fun r o => some (toB (o ++ nb r))) (fun i o => o.length ≤ i)
    (fun o hI => by rw [Q8K, Qi (by omega), QqF o (by omega), Q0]; simp [nb])
    (fun i x r o hx hi hdr hI ih => by
      have hp : Qv x 1 = some (toB (leB x 1)) := Q14 x 1 (by omega)
      rw [Q8K, Qj (by omega), Qg hx, Q0, hp, Q0, Qrd _ o (Qs0 x 1) (by rw [Qm]; omega), Q0, Qh (by omega), ih _ (by rw [List.length_append, Qm]; omega), Qdu]
      unfold nb; rw [List.flatMap_cons, List.append_assoc]) 0 [] (by omega) (by simp)
  exact k
def slE (k : Int) (a b c d : List Int) (P : List (List Int)) : List Int :=
  if k = 3 then (nb [k] ++ nb [(a.length : Int)]) ++ (((nb a ++ nb b) ++ nb c) ++ nb d) else if k = 4 then (nb [k] ++ nb [(P.length : Int), ((P.headD []).length : Int)]) ++ P.flatMap nb else nb [k]
theorem Qfx {k : Int} {a b c d : List Int} {P : List (List Int)} (h : Q2g k a b c d P = true) : (slE k a b c d P).length ≤ 1000 := by
  unfold slE
  split
  · next hk =>
    obtain ⟨f1, f2, f3, f4, f5, f6⟩ := QaL h hk
    simp only [List.length_append, Q0G, List.length_singleton]; omega
  · split
    · next hk =>
      obtain ⟨_, h4⟩ := QbT h hk
      obtain ⟨q, r, h5, h6, h7, h8⟩ := Qf5 h4
      have := Q8s nb 3 P (fun p hp => by rw [Q0G, (h8 p hp).1]; exact h7)
      simp only [List.length_append, Q0G, List.length_singleton, List.length_cons, List.length_nil]; omega
    · rw [Q0G]; simp
theorem Qer (k : Int) (a b c d : List Int) (P : List (List Int)) (h : Q2g k a b c d P = true) : Q5b k a b c d P = some (toB (slE k a b c d P)) := by
  rw [Qe9, Q1v [k] (by simp), Q0, slE]
  by_cases k3 : k = 3
  · obtain ⟨f1, f2, f3, f4, f5, f6⟩ := QaL h k3
    rw [kbeq k3, Qf, if_pos k3, Q1v [(a.length : Int)] (by simp), Q0, Qe (QK (by simp [Q0G])), Q1v a (by omega), Q0, Q1v b (by omega), Q0, Qe (QK (by rw [Q0G, Q0G]; omega)), Q1v c (by omega), Q0, Ql, Ql, Qe (QK (by rw [List.length_append, Q0G, Q0G, Q0G]; omega)), Q1v d (by omega), Q0, Ql, Qe (QK (by simp only [List.length_append, Q0G]; omega)), Ql,
      Qe (QK (by simp only [List.length_append, Q0G, List.length_singleton]; omega)), Ql]
  rw [kbne k3, Qb, if_neg k3]
  by_cases k4 : k = 4
  · obtain ⟨_, h4⟩ := QbT h k4
    obtain ⟨q, r, h5, h6, h7, h8⟩ := Qf5 h4
    have h0 : idx P 0 = some q := by rw [h5]; rfl
    have hq : P.headD [] = q := by rw [h5]; rfl
    rw [kbeq k4, Qf, if_pos k4, h0, Q0, Q1v [(P.length : Int), (q.length : Int)] (by simp), Q0, Qe (QK (by simp [Q0G])), Ql, hq]
    have lp := Q5L P (fun i out => Q3O out (i : Int) k a b c d P) nb 3 10 1000 (by omega) (fun p hp => by rw [Q0G, (h8 p hp).1]; exact h7) (fun o => some (toB o))
      (fun o ho => by rw [Q7E, Qi (by omega)])
      (fun i p o hp hi hl ho => by
        rw [Q7E, Qj (by omega), Qg hp, Q0, Q1v p (by rw [Q0G] at hl; omega), Q0, Qe (QK (by omega)), Ql, Qh (by omega)]) (nb [k] ++ nb [(P.length : Int), (q.length : Int)]) (by simp [Q0G])
    exact lp
  · rw [kbne k4, Qb, if_neg k4]
theorem Qem (k : Int) (a b c d : List Int) (P : List (List Int)) (h : Q2g k a b c d P = true) : Q3s k a b c d P = some (toB (slE k a b c d P)) := by
  have pb : ∀ n : Int, Qv n 1 = some (toB (nb [n])) := fun n => by
    have hp : Qv n 1 = some (toB (leB n 1)) := Q14 n 1 (by omega)
    rw [hp, Qdu]; rfl
  rw [QbD, pb, Q0, slE]
  by_cases k3 : k = 3
  · obtain ⟨f1, f2, f3, f4, f5, f6⟩ := QaL h k3
    rw [kbeq k3, Qf, if_pos k3, pb, Q0, Qe (QK (by simp [Q0G])), Q4t, Q0, Ql]
    have lp := Q5L [a, b, c, d] (fun i out => Q1E out (([a, b, c, d].length : Nat) : Int) (i : Int) [a, b, c, d]) nb 3 10 1000 (by simp) (fun p hp => by
        rw [Q0G]; simp only [List.mem_cons, List.not_mem_nil, or_false] at hp; rcases hp with rfl | rfl | rfl | rfl <;> omega) (fun o => some (toB o))
      (fun o ho => by rw [Q5z, Qi (by omega)])
      (fun i p o hp hi hl ho => by
        rw [Q0G] at hl
        rw [Q5z, Qj (by omega), Qe (Q4U (by omega) (by omega)), Int.toNat_natCast, hp, Q0, QdN p (by omega), Q0, Qe (QK (by rw [Q0G]; omega)), Ql, Qh (by simp at hi; omega)]) (nb [k] ++ nb [(a.length : Int)]) (by simp [Q0G])
    refine (show Q1E (toB (nb [k] ++ nb [(a.length : Int)])) (([a, b, c, d].length : Nat) : Int) 0 [a, b, c, d] = _ from lp).trans ?_
    simp
  rw [kbne k3, Qb, if_neg k3]
  by_cases k4 : k = 4
  · obtain ⟨_, h4⟩ := QbT h k4
    obtain ⟨q, r, h5, h6, h7, h8⟩ := Qf5 h4
    have h0 : idx P 0 = some q := by rw [h5]; rfl
    have hq : P.headD [] = q := by rw [h5]; rfl
    have e2 : nb [(P.length : Int)] ++ nb [(q.length : Int)] = nb [(P.length : Int), (q.length : Int)] := rfl
    rw [kbeq k4, Qf, if_pos k4, pb, Q0, h0, Q0, pb, Q0, Qe (QK (by simp [Q0G])), Ql, e2, Qe (QK (by simp [Q0G])), Ql, hq]
    have lp := Q5L P (fun i out => Q2x out P (P.length : Int) (i : Int)) nb 3 10 1000 (by omega) (fun p hp => by rw [Q0G, (h8 p hp).1]; exact h7) (fun o => some (toB o))
      (fun o ho => by rw [Q5v, Qi (by omega)])
      (fun i p o hp hi hl ho => by
        rw [Q5v, Qj (by omega), Qg hp, Q0, QdN p (by rw [Q0G] at hl; omega), Q0, Qe (QK (by omega)), Ql, Qh (by omega)]) (nb [k] ++ nb [(P.length : Int), (q.length : Int)]) (by simp [Q0G])
    exact lp
  · rw [kbne k4, Qb, if_neg k4]
/-! mappings -/
def mpE (s : ByteArray) (k : Int) (a b c d : List Int) (P : List (List Int)) (k2 : Int) (a2 b2 c2 d2 : List Int) (P2 : List (List Int)) : List Int := ((nb [(s.size : Int)] ++ ofB s) ++ slE k a b c d P) ++ slE k2 a2 b2 c2 d2 P2
def mpM (s : ByteArray) (k : Int) (a b c d : List Int) (P : List (List Int)) (k2 : Int) (a2 b2 c2 d2 : List Int) (P2 : List (List Int)) : Bool :=
  Q1g (ofB s) && (Q2g k a b c d P && (Q2g k2 a2 b2 c2 d2 P2 && (!(k == 2) && (!(k2 == 2) && decide (((mpE s k a b c d P k2 a2 b2 c2 d2 P2).length : Int) ≤ 200)))))
theorem Qmo (s : ByteArray) (hs : s.size ≤ 1048576) (k : Int) (a b c d : List Int) (P : List (List Int)) (k2 : Int) (a2 b2 c2 d2 : List Int) (P2 : List (List Int)) : Qaf s k a b c d P k2 a2 b2 c2 d2 P2 = some (mpM s k a b c d P k2 a2 b2 c2 d2 P2) := by
  have hp := QdC (ofB s) (Q6f s) (by rw [ofB_len]; exact hs)
  rw [Q2q] at hp
  rw [Qg7, hp, Q0, Q7u, Q0, Q7u, Q0, mpM]
  cases Q1g (ofB s) with
  | false => rfl
  | true =>
    cases f1 : Q2g k a b c d P with
    | false => rfl
    | true =>
      cases f2 : Q2g k2 a2 b2 c2 d2 P2 with
      | false => rfl
      | true =>
        rw [Bool.not_true, Qb, Qb, Qb, Bool.true_and, Bool.true_and, Bool.true_and]
        by_cases k1 : k = 2
        · rw [kbeq k1]; rfl
        rw [kbne k1, Qb, Bool.not_false, Bool.true_and]
        by_cases k3 : k2 = 2
        · rw [kbeq k3]; rfl
        rw [kbne k3, Qb, Bool.not_false, Bool.true_and]
        have l1 := Qfx f1
        have l2 := Qfx f2
        have es : toB (ofB s) = s := Q2q s
        have hsl : (ofB s).length = s.size := ofB_len s
        have j1 : joins (toB (nb [(s.size : Int)])) s = true := Q6H (by rw [Qz, Q0G]; simp; omega)
        have a1 : toB (nb [(s.size : Int)]) ++ s = toB (nb [(s.size : Int)] ++ ofB s) := by rw [← Ql, es]
        rw [Qg8, Q1v [(s.size : Int)] (by simp), Q0, Qe j1, a1, Qer k a b c d P f1, Q0, Qe (QK (by simp only [List.length_append, Q0G, List.length_singleton]; omega)), Ql, Qer k2 a2 b2 c2 d2 P2 f2, Q0, Qe (QK (by simp only [List.length_append, Q0G, List.length_singleton]; omega)), Ql, Q0, Qz]
        rfl
theorem QlI (s : ByteArray) (hs : s.size ≤ 1048576) (k : Int) (a b c d : List Int) (P : List (List Int)) (k2 : Int) (a2 b2 c2 d2 : List Int) (P2 : List (List Int)) (hA : Q6X ((k, a, b, c, d, P) : SelK)) (hB : Q6X ((k2, a2, b2, c2, d2, P2) : SelK)) : Qai s k a b c d P k2 a2 b2 c2 d2 P2 = some (mpM s k a b c d P k2 a2 b2 c2 d2 P2) := by
  have hp := QdA (ofB s) (Q6f s) (by rw [ofB_len]; exact hs)
  rw [Q2q] at hp
  rw [Qge, hp, Q0, Q9S _ _ _ _ _ _ hA, Q0, Q9S _ _ _ _ _ _ hB, Q0, mpM]
  cases Q1g (ofB s) with
  | false => rfl
  | true =>
    cases f1 : Q2g k a b c d P with
    | false => rfl
    | true =>
      cases f2 : Q2g k2 a2 b2 c2 d2 P2 with
      | false => rfl
      | true =>
        rw [Qf, Qf, Qf, Bool.true_and, Bool.true_and, Bool.true_and]
        by_cases k1 : k = 2
        · rw [kbeq k1, Q69 (by rw [bne_eq_false_iff_eq]; exact k1)]; rfl
        rw [kbne k1, Qe (by rw [bne_iff_ne]; exact k1), Bool.not_false, Bool.true_and]
        by_cases k3 : k2 = 2
        · rw [kbeq k3, Q69 (by rw [bne_eq_false_iff_eq]; exact k3)]; rfl
        rw [kbne k3, Qe (by rw [bne_iff_ne]; exact k3), Bool.not_false, Bool.true_and]
        have l1 := Qfx f1
        have l2 := Qfx f2
        have hsl : (ofB s).length = s.size := ofB_len s
        have e1 : leB (s.size : Int) 1 ++ ofB s = nb [(s.size : Int)] ++ ofB s := by rw [Qdu]; rfl
        rw [Qd1, Q5c s (by omega), Q0, e1, Qem k a b c d P f1, Q0, Qe (QK (by simp only [List.length_append, Q0G, List.length_singleton]; omega)), Ql, Qem k2 a2 b2 c2 d2 P2 f2, Q0, Qe (QK (by simp only [List.length_append, Q0G, List.length_singleton]; omega)), Ql, Q0, Qz]
        rfl
/-! virtL -/
/-! virtual datasets -/
def mpQ (D : List Int) (m : MapK) : Bool := mpM m.1 m.2.1 m.2.2.1 m.2.2.2.1 m.2.2.2.2.1 m.2.2.2.2.2.1 m.2.2.2.2.2.2.1 m.2.2.2.2.2.2.2.1 m.2.2.2.2.2.2.2.2.1 m.2.2.2.2.2.2.2.2.2.1 m.2.2.2.2.2.2.2.2.2.2.1 m.2.2.2.2.2.2.2.2.2.2.2.1 m.2.2.2.2.2.2.2.2.2.2.2.2 && fitM D m.2.2.2.2.2.2.2.1 m.2.2.2.2.2.2.2.2.1 m.2.2.2.2.2.2.2.2.2.1 m.2.2.2.2.2.2.2.2.2.2.1 m.2.2.2.2.2.2.2.2.2.2.2.1 m.2.2.2.2.2.2.2.2.2.2.2.2
def vtM (t : Q7) (D : List Int) (b : ByteArray) (M : List MapK) : Bool :=
  vT 3 t && (decide (((ecT 3 t).length : Int) ≤ 200) && (Q2b D && (eT 3 t (ofB b) && (decide ((M.length : Int) ≤ 6) && M.all (mpQ D)))))
theorem QnH {s : ByteArray} {k : Int} {a b c d : List Int} {P : List (List Int)} {k2 : Int} {a2 b2 c2 d2 : List Int} {P2 : List (List Int)} (h : mpM s k a b c d P k2 a2 b2 c2 d2 P2 = true) : Q2g k a b c d P = true ∧ Q2g k2 a2 b2 c2 d2 P2 = true := by
  unfold mpM at h
  simp only [Bool.and_eq_true] at h
  exact ⟨h.2.1, h.2.2.1⟩
def Qpf (m : MapK) : Prop := Q6X (m.2.1, m.2.2.1, m.2.2.2.1, m.2.2.2.2.1, m.2.2.2.2.2.1, m.2.2.2.2.2.2.1) ∧ Q6X (m.2.2.2.2.2.2.2.1, m.2.2.2.2.2.2.2.2.1, m.2.2.2.2.2.2.2.2.2.1, m.2.2.2.2.2.2.2.2.2.2.1, m.2.2.2.2.2.2.2.2.2.2.2.1, m.2.2.2.2.2.2.2.2.2.2.2.2)
theorem QnG {s : SelK} (h : Q3z s) : Q6X s := ⟨Qn h.2.1.2.1 (by decide), Qn h.2.2.1.2.1 (by decide), Qn h.2.2.2.1.2.1 (by decide), Qn h.2.2.2.2.1.2.1 (by decide), Qn h.2.2.2.2.2.2.1 (by decide), fun x hx => Qn (h.2.2.2.2.2.2.2 x hx).2.1 (by decide)⟩
theorem QrD {m : MapK} (h : Q12 m) : Qpf m :=
  ⟨QnG ⟨h.2.1, h.2.2.1, h.2.2.2.1, h.2.2.2.2.1, h.2.2.2.2.2.1, h.2.2.2.2.2.2.1⟩, QnG ⟨h.2.2.2.2.2.2.2.1, h.2.2.2.2.2.2.2.2.1, h.2.2.2.2.2.2.2.2.2.1, h.2.2.2.2.2.2.2.2.2.2.1, h.2.2.2.2.2.2.2.2.2.2.2.1, h.2.2.2.2.2.2.2.2.2.2.2.2⟩⟩
theorem Qmd (t : Q7) (hok : Qd t) (D : List Int) (b : ByteArray) (hb : b.size ≤ 1048576) (M : List MapK) (hM : ∀ m ∈ M, m.1.size ≤ 1048576) :
    Qe7 t.Q3 t.Q8 t.Q2 t.Qa t.Q5 t.Q9 t.Q1 t.Q6 t.Q4 D b M = some (vtM t D b M) := by
  rw [QkD, QeU, QbY t hok, Q0, Q0, vtM]
  cases hv : vT 3 t with
  | false => rfl
  | true =>
    have he := Q83 3 t (ofB b) hv (Q6f b) (by rw [ofB_len]; exact hb)
    rw [Q2q] at he
    rw [Bool.not_true, Qb, Qb, Bool.true_and, Q60 3 t (by omega) hok hv, Q0, Q0, Qz]
    by_cases hl : ((ecT 3 t).length : Int) > 200
    · rw [Qj hl, decide_eq_false (by omega), Bool.false_and]
    rw [Qi hl, decide_eq_true (show ((ecT 3 t).length : Int) ≤ 200 by omega), Bool.true_and, Q3X, Q0]
    cases hd : Q2b D with
    | false => rfl
    | true =>
      rw [Bool.not_true, Qb, Bool.true_and, he, Q0]
      cases eT 3 t (ofB b) with
      | false => rfl
      | true =>
        rw [Bool.not_true, Qb, Bool.true_and]
        by_cases hn : (M.length : Int) > 6
        · rw [Qj hn, decide_eq_false (by omega), Bool.false_and]
        rw [Qi hn, decide_eq_true (show (M.length : Int) ≤ 6 by omega), Bool.true_and]
        have kk := Q0s M (mpQ D) (fun i => Q64 (i : Int) t.Q3 t.Q8 t.Q2 t.Qa t.Q5 t.Q9 t.Q1 t.Q6 t.Q4 D b M) false (fun i m hm hi => by
          rw [Qc2, Qj (by omega), Qg hm, Q0, Q0, Qmo m.1 (hM m (Qo hm)), Q0, Qh (by omega), mpQ]
          cases h1 : mpM m.1 m.2.1 m.2.2.1 m.2.2.2.1 m.2.2.2.2.1 m.2.2.2.2.2.1 m.2.2.2.2.2.2.1 m.2.2.2.2.2.2.2.1 m.2.2.2.2.2.2.2.2.1 m.2.2.2.2.2.2.2.2.2.1 m.2.2.2.2.2.2.2.2.2.2.1 m.2.2.2.2.2.2.2.2.2.2.2.1 m.2.2.2.2.2.2.2.2.2.2.2.2 with
          | false => rfl
          | true =>
            simp only [Bool.not_true, Qb, QkP, hd, (QnH h1).2, Q0, Bool.true_and, Q1Q])
        rw [show Q64 0 t.Q3 t.Q8 t.Q2 t.Qa t.Q5 t.Q9 t.Q1 t.Q6 t.Q4 D b M = _ from kk, Qc2, Qi (by omega), Qu, Bool.and_true]
theorem Qmg (t : Q7) (hok : Qd t) (D : List Int) (b : ByteArray) (hb : b.size ≤ 1048576) (M : List MapK) (hM : ∀ m ∈ M, m.1.size ≤ 1048576) (hL : ∀ m ∈ M, Qpf m) :
    Q2P t.Q3 t.Q8 t.Q2 t.Qa t.Q5 t.Q9 t.Q1 t.Q6 t.Q4 D b M = some (vtM t D b M) := by
  rw [QdP, QbX, Q7I, show Q0b t.Q3 t.Q8 t.Q2 t.Qa t.Q5 t.Q9 t.Q1 t.Q6 t.Q4 3 = _ from Q6v 3 (by omega) t hok, Q0, Q0, vtM]
  cases hv : vT 3 t with
  | false => rfl
  | true =>
    have he := Q6b 3 t (ofB b) hok hv (Q6f b) (by rw [ofB_len]; exact hb)
    rw [Q2q] at he
    rw [Qf, Bool.true_and, Q65 3 t (by omega) hok hv, Q0, Qz, Q0]
    cases decide (((ecT 3 t).length : Int) ≤ 200) with
    | false => rfl
    | true =>
      rw [Bool.not_true, Qb, Bool.true_and, Q5i, Q0]
      cases hd : Q2b D with
      | false => rfl
      | true =>
        rw [Bool.not_true, Qb, Bool.true_and, he, Q0]
        cases eT 3 t (ofB b) with
        | false => rfl
        | true =>
          rw [Bool.not_true, Qb, Bool.true_and]
          by_cases hn : (M.length : Int) > 6
          · rw [Qj hn, decide_eq_false (by omega), Bool.false_and]
          rw [Qi hn, decide_eq_true (show (M.length : Int) ≤ 6 by omega), Bool.true_and, Q29, Q2n]
          have kk := Q5V (Q4M M (fun m => !mpQ D m) (fun i => QM M (M.length : Int) i t.Q3 t.Q8 t.Q2 t.Qa t.Q5 t.Q9 t.Q1 t.Q6 t.Q4 D b M) (by rw [Q0x, Qi (by omega)]) (fun i m hm hi => by
            have hl := hL m (Qo hm)
            rw [Q0x, Qj (by omega), Qg hm, Q0, QcO, QlI m.1 (hM m (Qo hm)) _ _ _ _ _ _ _ _ _ _ _ _ hl.1 hl.2, Q0, Qh (by omega), mpQ]
            cases h1 : mpM m.1 m.2.1 m.2.2.1 m.2.2.2.1 m.2.2.2.2.1 m.2.2.2.2.2.1 m.2.2.2.2.2.2.1 m.2.2.2.2.2.2.2.1 m.2.2.2.2.2.2.2.2.1 m.2.2.2.2.2.2.2.2.2.1 m.2.2.2.2.2.2.2.2.2.2.1 m.2.2.2.2.2.2.2.2.2.2.2.1 m.2.2.2.2.2.2.2.2.2.2.2.2 with
            | false => rfl
            | true =>
              rw [Bool.not_true, Qb, Qj0 D hd _ _ _ _ _ _ (QnH h1).2, Q0, Q0, Bool.true_and]))
          rw [kk, Q0, Q6h]
          congr 1
          exact all_congr_mem (fun m _ => by rw [Bool.not_not])
theorem Qns (m : MapK) (h : Q12 m) (left : Int) (h0 : 0 ≤ left) (h1 : left ≤ 1048576) :
    ∃ r, Q41 m.1 m.2.1 m.2.2.1 m.2.2.2.1 m.2.2.2.2.1 m.2.2.2.2.2.1 m.2.2.2.2.2.2.1 m.2.2.2.2.2.2.2.1 m.2.2.2.2.2.2.2.2.1 m.2.2.2.2.2.2.2.2.2.1 m.2.2.2.2.2.2.2.2.2.2.1 m.2.2.2.2.2.2.2.2.2.2.2.1 m.2.2.2.2.2.2.2.2.2.2.2.2 left = some r ∧ -1 ≤ r ∧ r ≤ 1048576 ∧ (0 ≤ r → m.1.size ≤ 1048576) := by
  by_cases c : m.1.size ≤ 1048576
  · obtain ⟨r, e, a, b⟩ := QgD m h left h0 h1
    exact ⟨r, e, a, b, fun _ => c⟩
  · have := h.1
    rw [Qbg, Qq (by omega) (by omega), Qj (by omega)]
    exact ⟨-1, rfl, by omega, by omega, fun h => by omega⟩
theorem Qmq (L : List MapK) (hn : L.length ≤ 140737488351232) (hL : ∀ m ∈ L, Q12 m) (left : Int) (h0 : 0 ≤ left) (h1 : left ≤ 1048576) : ∃ r, Q4N L left = some r ∧ -1 ≤ r ∧ r ≤ 1048576 ∧ (0 ≤ r → ∀ m ∈ L, m.1.size ≤ 1048576) := by
  have key : ∀ (n i : Nat) (s : Int), L.length = i + n → 0 ≤ s → s ≤ 1048576 → ∃ r, Q2p L s (i : Int) = some r ∧ -1 ≤ r ∧ r ≤ 1048576 ∧ (0 ≤ r → ∀ m ∈ L.drop i, m.1.size ≤ 1048576) := by
    intro n
    induction n with
    | zero =>
      intro i s hi g0 g1
      rw [Q3r, Qi (by omega)]
      exact ⟨s, rfl, by omega, g1, fun _ m hm => by rw [List.drop_of_length_le (by omega)] at hm; cases hm⟩
    | succ n ih =>
      intro i s hi g0 g1
      have hlt : i < L.length := by omega
      have hm : L[i]? = some L[i] := List.getElem?_eq_getElem hlt
      obtain ⟨r, e, a, b, c⟩ := Qns L[i] (hL _ (List.getElem_mem hlt)) s g0 g1
      rw [Q3r, Qj (by omega), Qg hm, Q0, e, Q0]
      by_cases hr : r < 0
      · rw [Qj hr]; exact ⟨-1, rfl, by omega, by omega, fun h => by omega⟩
      · rw [Qi hr, Qh (by omega)]
        obtain ⟨r2, e2, a2, b2, c2⟩ := ih (i + 1) r (by omega) (by omega) b
        refine ⟨r2, e2, a2, b2, fun h m hm => ?_⟩
        rw [List.drop_eq_getElem_cons hlt] at hm
        rcases List.mem_cons.1 hm with rfl | hm
        · exact c (by omega)
        · exact c2 h m hm
  rw [QaO, Qq (by omega) (by omega)]
  by_cases c : left - (L.length : Int) < 0
  · rw [Qj c]; exact ⟨-1, rfl, by omega, by omega, fun h => by omega⟩
  · rw [Qi c]
    obtain ⟨r, e, a, b, c⟩ := key L.length 0 (left - (L.length : Int)) (by omega) (by omega) (by omega)
    exact ⟨r, e, a, b, fun h m hm => c h m (by rw [List.drop_zero]; exact hm)⟩
theorem Qo3 (t : Q7) (D : List Int) (b : ByteArray) (M : List MapK) (h : Q54 (t, D, b, M)) (left : Int) (h0 : 0 ≤ left) (h1 : left ≤ 1048576) :
    ∃ r, Q3Z t.Q3 t.Q8 t.Q2 t.Qa t.Q5 t.Q9 t.Q1 t.Q6 t.Q4 D b M left = some r ∧ r ≤ 1048576 ∧ (0 ≤ r → b.size ≤ 1048576 ∧ ∀ m ∈ M, m.1.size ≤ 1048576) := by
  obtain ⟨hok, hD, hb, hM⟩ := h
  dsimp only at hok hD hb hM
  rw [Qb7]
  obtain ⟨r1, e1, a1, b1⟩ := Qh3 t hok left h0 h1
  rw [e1, Q0]
  by_cases c1 : r1 < 0
  · rw [Qj c1]; exact ⟨_, rfl, by omega, fun h => by omega⟩
  rw [Qi c1]
  obtain ⟨r2, e2, a2, b2⟩ := Qbr D hD r1 (by omega) b1
  rw [e2, Q0]
  by_cases c2 : r2 < 0
  · rw [Qj c2]; exact ⟨_, rfl, by omega, fun h => by omega⟩
  rw [Qi c2, Qq (by omega) (by omega)]
  by_cases c3 : r2 - (b.size : Int) < 0
  · rw [Qj c3]; exact ⟨_, rfl, by omega, fun h => by omega⟩
  rw [Qi c3]
  obtain ⟨r3, e3, a3, b3, d3⟩ := Qmq M (Qn hM.2.1 (by decide)) hM.2.2 (r2 - (b.size : Int)) (by omega) (by omega)
  rw [e3, Q0]
  by_cases c4 : r3 < 0
  · rw [Qj c4]; exact ⟨_, rfl, by omega, fun h => by omega⟩
  rw [Qi c4]
  exact ⟨r3, rfl, b3, fun h => ⟨by omega, d3 h⟩⟩
/-! arrN -/
theorem QhV (s : ByteArray) (t : Q7) (hok : Qd t) (D l : List Int) (hl : inB l) (hn : l.length ≤ 1048576) :
    Qeh s t.Q3 t.Q8 t.Q2 t.Qa t.Q5 t.Q9 t.Q1 t.Q6 t.Q4 D (toB l) = some (arrM t D l) := by
  rw [QkT, QbY t hok, Q0, arrM]
  cases hv : vT 3 t with
  | false => rw [Qb, Bool.false_and]
  | true =>
    have hs := Q0Q hv
    rw [Qf, Q3X, Q0, Bool.true_and]
    cases hd : Q2b D with
    | false => rw [Qb, Bool.false_and]
    | true =>
      obtain ⟨d1, d2, d3⟩ := Q6d hd
      have d4 := Q8Z D 1 (by decide) d2
      have h1 : 0 ≤ Q0A 1 D * szT t := Int.mul_nonneg d4 (by omega)
      have h2 : Q0A 1 D * szT t ≤ 600 * 24 := Int.mul_le_mul d3 hs.2 (by omega) (by decide)
      rw [Qf, Q92 D d1 d2, Q0, Q1j hv, Q0, Qq (by omega) (by omega), Qz, Bool.true_and]
      cases hc : ((l.length : Int) == Q0A 1 D * szT t) with
      | false => rw [Qb, Bool.false_and]
      | true =>
        rw [beq_iff_eq] at hc
        have hm : l.length = (Q0A 1 D).toNat * (szT t).toNat := by
          have : ((l.length : Nat) : Int) = (((Q0A 1 D).toNat * (szT t).toNat : Nat) : Int) := by rw [hc, Int.natCast_mul, Int.toNat_of_nonneg d4, Int.toNat_of_nonneg (by omega)]
          exact_mod_cast this
        rw [Qf, Qj3 t hv l hl hn, Q0, Bool.true_and, decide_eq_true (by rw [hm]; exact Nat.mul_mod_left _ _), Bool.true_and]
/-! attrL -/
/-! attributes -/
def atE (s : ByteArray) (t : Q7) (D : List Int) (b : ByteArray) : List Int := (((((leB (s.size : Int) 1 ++ ofB s) ++ leB ((ecT 3 t).length : Int) 2) ++ ecT 3 t) ++ leB (D.length : Int) 1) ++ D.flatMap (fun d => leB d 1)) ++ ofB b
def atM (s : ByteArray) (t : Q7) (D : List Int) (b : ByteArray) : Bool := isNm s && (arrM t D (ofB b) && decide (((atE s t D b).length : Int) ≤ 200))
theorem Qkx (s : ByteArray) (hs : s.size ≤ 140737488351232) (t : Q7) (hok : Qd t) (hv : vT 3 t = true) (D : List Int) (hD : D.length ≤ 3) (b : ByteArray) (hb : b.size ≤ 140737488351232) :
    Qa6 s t.Q3 t.Q8 t.Q2 t.Qa t.Q5 t.Q9 t.Q1 t.Q6 t.Q4 D b = some (toB (atE s t D b)) := by
  have hL := Q6g 3 t hok hv
  have hc := Qla (d := 3) (by omega)
  have e : toB (ofB s) = s := Q2q s
  have eb : toB (ofB b) = b := Q2q b
  have j1 : joins (toB (leB (s.size : Int) 1)) s = true := Q6H (by rw [Qz, Qm]; omega)
  have a1 : toB (leB (s.size : Int) 1) ++ s = toB (leB (s.size : Int) 1 ++ ofB s) := by rw [← Ql, e]
  have pt : Q6i ((toB (ecT 3 t)).size : Int) 2 false = some (toB (leB ((ecT 3 t).length : Int) 2)) := by rw [Qz]; exact Qc3 _ 2 (by omega)
  rw [Qg6, Q60 3 t (by omega) hok hv, Q0, QC, Q0, Qe j1, pt, Q0, a1, Qe (QK (by rw [List.length_append, Qm, Qm, ofB_len]; omega)), Ql, Qe (QK (by rw [List.length_append, List.length_append, Qm, Qm, ofB_len]; omega)), Ql, QC, Q0, Qe (QK (by rw [List.length_append, List.length_append, List.length_append, Qm, Qm, Qm, ofB_len]; omega)), Ql]
  have lp := Q5L D (fun i out => Q5a out (i : Int) s t.Q3 t.Q8 t.Q2 t.Qa t.Q5 t.Q9 t.Q1 t.Q6 t.Q4 D b) (fun d => leB d 1) 1 1441151880758558720 2305843009213693952 (by omega) (fun d _ => by rw [Qm]; exact Nat.le_refl _) (fun o => some (toB (o ++ ofB b)))
    (fun o ho => by rw [Q9g, Qi (by omega), Qe (Q6H (by rw [Qz]; omega)), ← Ql, eb])
    (fun i d o hd hi hK hoB => by
      rw [Q9g, Qj (by omega), Qg hd, Q0, QC, Q0, Qe (QK (by rw [Qm]; omega)), Ql, Qh (by omega)])
    ((((leB (s.size : Int) 1 ++ ofB s) ++ leB ((ecT 3 t).length : Int) 2) ++ ecT 3 t) ++ leB (D.length : Int) 1) (by simp only [List.length_append, Qm, ofB_len]; omega)
  exact lp
theorem QkO (s : ByteArray) (hs : s.size ≤ 140737488351232) (t : Q7) (hok : Qd t) (hv : vT 3 t = true) (D : List Int) (hD : D.length ≤ 3) (b : ByteArray) (hb : b.size ≤ 140737488351232) :
    Q5o s t.Q3 t.Q8 t.Q2 t.Qa t.Q5 t.Q9 t.Q1 t.Q6 t.Q4 D b = some (toB (atE s t D b)) := by
  have hL := Q6g 3 t hok hv
  have hc := Qla (d := 3) (by omega)
  have eb : toB (ofB b) = b := Q2q b
  have p1 : ∀ n : Int, Qv n 1 = some (toB (leB n 1)) := fun n => Q14 n 1 (by omega)
  have p2 : ∀ n : Int, Qv n 2 = some (toB (leB n 2)) := fun n => Q14 n 2 (by omega)
  rw [QbU, Q65 3 t (by omega) hok hv, Q0, Q5c s hs, Q0, p2, Qz, Q0, Qe (QK (by rw [List.length_append, Qm, Qm, ofB_len]; omega)), Ql, Qe (QK (by rw [List.length_append, List.length_append, Qm, Qm, ofB_len]; omega)), Ql, p1, Q0, Qe (QK (by rw [List.length_append, List.length_append, List.length_append, Qm, Qm, Qm, ofB_len]; omega)), Ql]
  have lp := Q5L D (fun i out => Q2C out D (D.length : Int) (i : Int) s t.Q3 t.Q8 t.Q2 t.Qa t.Q5 t.Q9 t.Q1 t.Q6 t.Q4 D b) (fun d => leB d 1) 1 1441151880758558720 2305843009213693952 (by omega) (fun d _ => by rw [Qm]; exact Nat.le_refl _) (fun o => some (toB (o ++ ofB b)))
    (fun o ho => by rw [Q5C, Qi (by omega), Qe (Q6H (by rw [Qz]; omega)), ← Ql, eb])
    (fun i d o hd hi hK hoB => by
      rw [Q5C, Qj (by omega), Qg hd, Q0, p1, Q0, Qe (QK (by rw [Qm]; omega)), Ql, Qh (by omega)])
    ((((leB (s.size : Int) 1 ++ ofB s) ++ leB ((ecT 3 t).length : Int) 2) ++ ecT 3 t) ++ leB (D.length : Int) 1) (by simp only [List.length_append, Qm, ofB_len]; omega)
  exact lp
theorem QnI {t : Q7} {D l : List Int} (h : arrM t D l = true) : vT 3 t = true ∧ D.length ≤ 3 := by
  unfold arrM at h
  simp only [Bool.and_eq_true] at h
  exact ⟨h.1, (Q6d h.2.1).1⟩
theorem Qky (s : ByteArray) (hs : s.size ≤ 140737488351232) (t : Q7) (hok : Qd t) (D : List Int) (b : ByteArray) (hb : b.size ≤ 1048576) :
    Qe4 s t.Q3 t.Q8 t.Q2 t.Qa t.Q5 t.Q9 t.Q1 t.Q6 t.Q4 D b = some (atM s t D b) := by
  have h0 := QhV s t hok D (ofB b) (Q6f b) (by rw [ofB_len]; exact hb)
  rw [Q2q] at h0
  rw [QkC, Q2j, Q0, atM]
  cases hn : isNm s with
  | false => rfl
  | true =>
    rw [Qf, Bool.true_and, h0, Q0]
    cases ha : arrM t D (ofB b) with
    | false => rfl
    | true =>
      obtain ⟨hv, hd⟩ := QnI ha
      rw [Qf, Bool.true_and, Qkx s hs t hok hv D hd b (by omega), Q0, Qz]
theorem Ql8 (s : ByteArray) (hs : s.size ≤ 140737488351232) (t : Q7) (hok : Qd t) (D : List Int) (b : ByteArray) (hb : b.size ≤ 1048576) :
    Q2W s t.Q3 t.Q8 t.Q2 t.Qa t.Q5 t.Q9 t.Q1 t.Q6 t.Q4 D b = some (atM s t D b) := by
  have h0 := Qig t hok D (ofB b) (Q6f b) (by rw [ofB_len]; exact hb)
  rw [Q2q] at h0
  rw [QcQ, Q5I s hs, Q0, atM]
  cases hn : isNm s with
  | false => rfl
  | true =>
    rw [Qf, Bool.true_and, h0, Q0]
    cases ha : arrM t D (ofB b) with
    | false => rfl
    | true =>
      obtain ⟨hv, hd⟩ := QnI ha
      rw [Qf, Bool.true_and, QkO s hs t hok hv D hd b (by omega), Q0, Qz]
/-! FnExactValidOp -/
def opT (fp fn ft fs fd ff fa fv : Bool) (o : K_Op) : K_Op := (o.1, cond fp o.2.1 (bs []), cond fn o.2.2.1 (bs []), cond ft o.2.2.2.1 (bs []), cond fs o.2.2.2.2.1 (Q7.mk 0 0 false false [] [] [] [] 0), cond fs o.2.2.2.2.2.1 ([]), cond fs o.2.2.2.2.2.2.1 ([]), cond fs o.2.2.2.2.2.2.2.1 ([]), cond fs o.2.2.2.2.2.2.2.2.1 ([]), cond fs o.2.2.2.2.2.2.2.2.2.1 (bs []), cond fs o.2.2.2.2.2.2.2.2.2.2.1 (0), cond fd o.2.2.2.2.2.2.2.2.2.2.2.1 ([]), cond ff o.2.2.2.2.2.2.2.2.2.2.2.2.1 (0), cond ff o.2.2.2.2.2.2.2.2.2.2.2.2.2.1 ([]), cond ff o.2.2.2.2.2.2.2.2.2.2.2.2.2.2.1 ([]), cond ff o.2.2.2.2.2.2.2.2.2.2.2.2.2.2.2.1 ([]), cond ff o.2.2.2.2.2.2.2.2.2.2.2.2.2.2.2.2.1 ([]), cond ff o.2.2.2.2.2.2.2.2.2.2.2.2.2.2.2.2.2.1 ([]), cond ff o.2.2.2.2.2.2.2.2.2.2.2.2.2.2.2.2.2.2.1 (bs []), cond fa o.2.2.2.2.2.2.2.2.2.2.2.2.2.2.2.2.2.2.2.1 (bs []), cond fa o.2.2.2.2.2.2.2.2.2.2.2.2.2.2.2.2.2.2.2.2.1 (Q7.mk 0 0 false false [] [] [] [] 0), cond fa o.2.2.2.2.2.2.2.2.2.2.2.2.2.2.2.2.2.2.2.2.2.1 ([]), cond fa o.2.2.2.2.2.2.2.2.2.2.2.2.2.2.2.2.2.2.2.2.2.2.1 (bs []), cond fv o.2.2.2.2.2.2.2.2.2.2.2.2.2.2.2.2.2.2.2.2.2.2.2.1 (Q7.mk 0 0 false false [] [] [] [] 0), cond fv o.2.2.2.2.2.2.2.2.2.2.2.2.2.2.2.2.2.2.2.2.2.2.2.2.1 ([]), cond fv o.2.2.2.2.2.2.2.2.2.2.2.2.2.2.2.2.2.2.2.2.2.2.2.2.2.1 (bs []), cond fv o.2.2.2.2.2.2.2.2.2.2.2.2.2.2.2.2.2.2.2.2.2.2.2.2.2.2 ([]))
def flT (o : K_Op) := (o.1, o.2.1, o.2.2.1, o.2.2.2.1, o.2.2.2.2.1.Q3, o.2.2.2.2.1.Q8, o.2.2.2.2.1.Q2, o.2.2.2.2.1.Qa, o.2.2.2.2.1.Q5, o.2.2.2.2.1.Q9, o.2.2.2.2.1.Q1, o.2.2.2.2.1.Q6, o.2.2.2.2.1.Q4, o.2.2.2.2.2.1, o.2.2.2.2.2.2.1, o.2.2.2.2.2.2.2.1, o.2.2.2.2.2.2.2.2.1, o.2.2.2.2.2.2.2.2.2.1, o.2.2.2.2.2.2.2.2.2.2.1, o.2.2.2.2.2.2.2.2.2.2.2.1, o.2.2.2.2.2.2.2.2.2.2.2.2.1, o.2.2.2.2.2.2.2.2.2.2.2.2.2.1, o.2.2.2.2.2.2.2.2.2.2.2.2.2.2.1, o.2.2.2.2.2.2.2.2.2.2.2.2.2.2.2.1, o.2.2.2.2.2.2.2.2.2.2.2.2.2.2.2.2.1, o.2.2.2.2.2.2.2.2.2.2.2.2.2.2.2.2.2.1, o.2.2.2.2.2.2.2.2.2.2.2.2.2.2.2.2.2.2.1, o.2.2.2.2.2.2.2.2.2.2.2.2.2.2.2.2.2.2.2.1, o.2.2.2.2.2.2.2.2.2.2.2.2.2.2.2.2.2.2.2.2.1.Q3, o.2.2.2.2.2.2.2.2.2.2.2.2.2.2.2.2.2.2.2.2.1.Q8, o.2.2.2.2.2.2.2.2.2.2.2.2.2.2.2.2.2.2.2.2.1.Q2, o.2.2.2.2.2.2.2.2.2.2.2.2.2.2.2.2.2.2.2.2.1.Qa, o.2.2.2.2.2.2.2.2.2.2.2.2.2.2.2.2.2.2.2.2.1.Q5, o.2.2.2.2.2.2.2.2.2.2.2.2.2.2.2.2.2.2.2.2.1.Q9, o.2.2.2.2.2.2.2.2.2.2.2.2.2.2.2.2.2.2.2.2.1.Q1, o.2.2.2.2.2.2.2.2.2.2.2.2.2.2.2.2.2.2.2.2.1.Q6, o.2.2.2.2.2.2.2.2.2.2.2.2.2.2.2.2.2.2.2.2.1.Q4, o.2.2.2.2.2.2.2.2.2.2.2.2.2.2.2.2.2.2.2.2.2.1, o.2.2.2.2.2.2.2.2.2.2.2.2.2.2.2.2.2.2.2.2.2.2.1, o.2.2.2.2.2.2.2.2.2.2.2.2.2.2.2.2.2.2.2.2.2.2.2.1.Q3, o.2.2.2.2.2.2.2.2.2.2.2.2.2.2.2.2.2.2.2.2.2.2.2.1.Q8, o.2.2.2.2.2.2.2.2.2.2.2.2.2.2.2.2.2.2.2.2.2.2.2.1.Q2, o.2.2.2.2.2.2.2.2.2.2.2.2.2.2.2.2.2.2.2.2.2.2.2.1.Qa, o.2.2.2.2.2.2.2.2.2.2.2.2.2.2.2.2.2.2.2.2.2.2.2.1.Q5, o.2.2.2.2.2.2.2.2.2.2.2.2.2.2.2.2.2.2.2.2.2.2.2.1.Q9, o.2.2.2.2.2.2.2.2.2.2.2.2.2.2.2.2.2.2.2.2.2.2.2.1.Q1, o.2.2.2.2.2.2.2.2.2.2.2.2.2.2.2.2.2.2.2.2.2.2.2.1.Q6, o.2.2.2.2.2.2.2.2.2.2.2.2.2.2.2.2.2.2.2.2.2.2.2.1.Q4, o.2.2.2.2.2.2.2.2.2.2.2.2.2.2.2.2.2.2.2.2.2.2.2.2.1, o.2.2.2.2.2.2.2.2.2.2.2.2.2.2.2.2.2.2.2.2.2.2.2.2.2.1, o.2.2.2.2.2.2.2.2.2.2.2.2.2.2.2.2.2.2.2.2.2.2.2.2.2.2)
def flT2 (o : K_Op) (b : Bool) := (o.1, o.2.1, o.2.2.1, o.2.2.2.1, o.2.2.2.2.1.Q3, o.2.2.2.2.1.Q8, o.2.2.2.2.1.Q2, o.2.2.2.2.1.Qa, o.2.2.2.2.1.Q5, o.2.2.2.2.1.Q9, o.2.2.2.2.1.Q1, o.2.2.2.2.1.Q6, o.2.2.2.2.1.Q4, o.2.2.2.2.2.1, o.2.2.2.2.2.2.1, o.2.2.2.2.2.2.2.1, o.2.2.2.2.2.2.2.2.1, o.2.2.2.2.2.2.2.2.2.1, o.2.2.2.2.2.2.2.2.2.2.1, o.2.2.2.2.2.2.2.2.2.2.2.1, o.2.2.2.2.2.2.2.2.2.2.2.2.1, o.2.2.2.2.2.2.2.2.2.2.2.2.2.1, o.2.2.2.2.2.2.2.2.2.2.2.2.2.2.1, o.2.2.2.2.2.2.2.2.2.2.2.2.2.2.2.1, o.2.2.2.2.2.2.2.2.2.2.2.2.2.2.2.2.1, o.2.2.2.2.2.2.2.2.2.2.2.2.2.2.2.2.2.1, o.2.2.2.2.2.2.2.2.2.2.2.2.2.2.2.2.2.2.1, o.2.2.2.2.2.2.2.2.2.2.2.2.2.2.2.2.2.2.2.1, o.2.2.2.2.2.2.2.2.2.2.2.2.2.2.2.2.2.2.2.2.1.Q3, o.2.2.2.2.2.2.2.2.2.2.2.2.2.2.2.2.2.2.2.2.1.Q8, o.2.2.2.2.2.2.2.2.2.2.2.2.2.2.2.2.2.2.2.2.1.Q2, o.2.2.2.2.2.2.2.2.2.2.2.2.2.2.2.2.2.2.2.2.1.Qa, o.2.2.2.2.2.2.2.2.2.2.2.2.2.2.2.2.2.2.2.2.1.Q5, o.2.2.2.2.2.2.2.2.2.2.2.2.2.2.2.2.2.2.2.2.1.Q9, o.2.2.2.2.2.2.2.2.2.2.2.2.2.2.2.2.2.2.2.2.1.Q1, o.2.2.2.2.2.2.2.2.2.2.2.2.2.2.2.2.2.2.2.2.1.Q6, o.2.2.2.2.2.2.2.2.2.2.2.2.2.2.2.2.2.2.2.2.1.Q4, o.2.2.2.2.2.2.2.2.2.2.2.2.2.2.2.2.2.2.2.2.2.1, o.2.2.2.2.2.2.2.2.2.2.2.2.2.2.2.2.2.2.2.2.2.2.1, o.2.2.2.2.2.2.2.2.2.2.2.2.2.2.2.2.2.2.2.2.2.2.2.1.Q3, o.2.2.2.2.2.2.2.2.2.2.2.2.2.2.2.2.2.2.2.2.2.2.2.1.Q8, o.2.2.2.2.2.2.2.2.2.2.2.2.2.2.2.2.2.2.2.2.2.2.2.1.Q2, o.2.2.2.2.2.2.2.2.2.2.2.2.2.2.2.2.2.2.2.2.2.2.2.1.Qa, o.2.2.2.2.2.2.2.2.2.2.2.2.2.2.2.2.2.2.2.2.2.2.2.1.Q5, o.2.2.2.2.2.2.2.2.2.2.2.2.2.2.2.2.2.2.2.2.2.2.2.1.Q9, o.2.2.2.2.2.2.2.2.2.2.2.2.2.2.2.2.2.2.2.2.2.2.2.1.Q1, o.2.2.2.2.2.2.2.2.2.2.2.2.2.2.2.2.2.2.2.2.2.2.2.1.Q6, o.2.2.2.2.2.2.2.2.2.2.2.2.2.2.2.2.2.2.2.2.2.2.2.1.Q4, o.2.2.2.2.2.2.2.2.2.2.2.2.2.2.2.2.2.2.2.2.2.2.2.2.1, o.2.2.2.2.2.2.2.2.2.2.2.2.2.2.2.2.2.2.2.2.2.2.2.2.2.1, o.2.2.2.2.2.2.2.2.2.2.2.2.2.2.2.2.2.2.2.2.2.2.2.2.2.2, b)
noncomputable abbrev oS (o : K_Op) := Qc9 o.1 o.2.1 o.2.2.1 o.2.2.2.1 o.2.2.2.2.1.Q3 o.2.2.2.2.1.Q8 o.2.2.2.2.1.Q2 o.2.2.2.2.1.Qa o.2.2.2.2.1.Q5 o.2.2.2.2.1.Q9 o.2.2.2.2.1.Q1 o.2.2.2.2.1.Q6 o.2.2.2.2.1.Q4 o.2.2.2.2.2.1 o.2.2.2.2.2.2.1 o.2.2.2.2.2.2.2.1 o.2.2.2.2.2.2.2.2.1 o.2.2.2.2.2.2.2.2.2.1 o.2.2.2.2.2.2.2.2.2.2.1 o.2.2.2.2.2.2.2.2.2.2.2.1 o.2.2.2.2.2.2.2.2.2.2.2.2.1 o.2.2.2.2.2.2.2.2.2.2.2.2.2.1 o.2.2.2.2.2.2.2.2.2.2.2.2.2.2.1 o.2.2.2.2.2.2.2.2.2.2.2.2.2.2.2.1 o.2.2.2.2.2.2.2.2.2.2.2.2.2.2.2.2.1 o.2.2.2.2.2.2.2.2.2.2.2.2.2.2.2.2.2.1 o.2.2.2.2.2.2.2.2.2.2.2.2.2.2.2.2.2.2.1 o.2.2.2.2.2.2.2.2.2.2.2.2.2.2.2.2.2.2.2.1 o.2.2.2.2.2.2.2.2.2.2.2.2.2.2.2.2.2.2.2.2.1.Q3 o.2.2.2.2.2.2.2.2.2.2.2.2.2.2.2.2.2.2.2.2.1.Q8 o.2.2.2.2.2.2.2.2.2.2.2.2.2.2.2.2.2.2.2.2.1.Q2 o.2.2.2.2.2.2.2.2.2.2.2.2.2.2.2.2.2.2.2.2.1.Qa o.2.2.2.2.2.2.2.2.2.2.2.2.2.2.2.2.2.2.2.2.1.Q5 o.2.2.2.2.2.2.2.2.2.2.2.2.2.2.2.2.2.2.2.2.1.Q9 o.2.2.2.2.2.2.2.2.2.2.2.2.2.2.2.2.2.2.2.2.1.Q1 o.2.2.2.2.2.2.2.2.2.2.2.2.2.2.2.2.2.2.2.2.1.Q6 o.2.2.2.2.2.2.2.2.2.2.2.2.2.2.2.2.2.2.2.2.1.Q4 o.2.2.2.2.2.2.2.2.2.2.2.2.2.2.2.2.2.2.2.2.2.1 o.2.2.2.2.2.2.2.2.2.2.2.2.2.2.2.2.2.2.2.2.2.2.1 o.2.2.2.2.2.2.2.2.2.2.2.2.2.2.2.2.2.2.2.2.2.2.2.1.Q3 o.2.2.2.2.2.2.2.2.2.2.2.2.2.2.2.2.2.2.2.2.2.2.2.1.Q8 o.2.2.2.2.2.2.2.2.2.2.2.2.2.2.2.2.2.2.2.2.2.2.2.1.Q2 o.2.2.2.2.2.2.2.2.2.2.2.2.2.2.2.2.2.2.2.2.2.2.2.1.Qa o.2.2.2.2.2.2.2.2.2.2.2.2.2.2.2.2.2.2.2.2.2.2.2.1.Q5 o.2.2.2.2.2.2.2.2.2.2.2.2.2.2.2.2.2.2.2.2.2.2.2.1.Q9 o.2.2.2.2.2.2.2.2.2.2.2.2.2.2.2.2.2.2.2.2.2.2.2.1.Q1 o.2.2.2.2.2.2.2.2.2.2.2.2.2.2.2.2.2.2.2.2.2.2.2.1.Q6 o.2.2.2.2.2.2.2.2.2.2.2.2.2.2.2.2.2.2.2.2.2.2.2.1.Q4 o.2.2.2.2.2.2.2.2.2.2.2.2.2.2.2.2.2.2.2.2.2.2.2.2.1 o.2.2.2.2.2.2.2.2.2.2.2.2.2.2.2.2.2.2.2.2.2.2.2.2.2.1 o.2.2.2.2.2.2.2.2.2.2.2.2.2.2.2.2.2.2.2.2.2.2.2.2.2.2
noncomputable abbrev oV (o : K_Op) := QbJ o.1 o.2.1 o.2.2.1 o.2.2.2.1 o.2.2.2.2.1.Q3 o.2.2.2.2.1.Q8 o.2.2.2.2.1.Q2 o.2.2.2.2.1.Qa o.2.2.2.2.1.Q5 o.2.2.2.2.1.Q9 o.2.2.2.2.1.Q1 o.2.2.2.2.1.Q6 o.2.2.2.2.1.Q4 o.2.2.2.2.2.1 o.2.2.2.2.2.2.1 o.2.2.2.2.2.2.2.1 o.2.2.2.2.2.2.2.2.1 o.2.2.2.2.2.2.2.2.2.1 o.2.2.2.2.2.2.2.2.2.2.1 o.2.2.2.2.2.2.2.2.2.2.2.1 o.2.2.2.2.2.2.2.2.2.2.2.2.1 o.2.2.2.2.2.2.2.2.2.2.2.2.2.1 o.2.2.2.2.2.2.2.2.2.2.2.2.2.2.1 o.2.2.2.2.2.2.2.2.2.2.2.2.2.2.2.1 o.2.2.2.2.2.2.2.2.2.2.2.2.2.2.2.2.1 o.2.2.2.2.2.2.2.2.2.2.2.2.2.2.2.2.2.1 o.2.2.2.2.2.2.2.2.2.2.2.2.2.2.2.2.2.2.1 o.2.2.2.2.2.2.2.2.2.2.2.2.2.2.2.2.2.2.2.1 o.2.2.2.2.2.2.2.2.2.2.2.2.2.2.2.2.2.2.2.2.1.Q3 o.2.2.2.2.2.2.2.2.2.2.2.2.2.2.2.2.2.2.2.2.1.Q8 o.2.2.2.2.2.2.2.2.2.2.2.2.2.2.2.2.2.2.2.2.1.Q2 o.2.2.2.2.2.2.2.2.2.2.2.2.2.2.2.2.2.2.2.2.1.Qa o.2.2.2.2.2.2.2.2.2.2.2.2.2.2.2.2.2.2.2.2.1.Q5 o.2.2.2.2.2.2.2.2.2.2.2.2.2.2.2.2.2.2.2.2.1.Q9 o.2.2.2.2.2.2.2.2.2.2.2.2.2.2.2.2.2.2.2.2.1.Q1 o.2.2.2.2.2.2.2.2.2.2.2.2.2.2.2.2.2.2.2.2.1.Q6 o.2.2.2.2.2.2.2.2.2.2.2.2.2.2.2.2.2.2.2.2.1.Q4 o.2.2.2.2.2.2.2.2.2.2.2.2.2.2.2.2.2.2.2.2.2.1 o.2.2.2.2.2.2.2.2.2.2.2.2.2.2.2.2.2.2.2.2.2.2.1 o.2.2.2.2.2.2.2.2.2.2.2.2.2.2.2.2.2.2.2.2.2.2.2.1.Q3 o.2.2.2.2.2.2.2.2.2.2.2.2.2.2.2.2.2.2.2.2.2.2.2.1.Q8 o.2.2.2.2.2.2.2.2.2.2.2.2.2.2.2.2.2.2.2.2.2.2.2.1.Q2 o.2.2.2.2.2.2.2.2.2.2.2.2.2.2.2.2.2.2.2.2.2.2.2.1.Qa o.2.2.2.2.2.2.2.2.2.2.2.2.2.2.2.2.2.2.2.2.2.2.2.1.Q5 o.2.2.2.2.2.2.2.2.2.2.2.2.2.2.2.2.2.2.2.2.2.2.2.1.Q9 o.2.2.2.2.2.2.2.2.2.2.2.2.2.2.2.2.2.2.2.2.2.2.2.1.Q1 o.2.2.2.2.2.2.2.2.2.2.2.2.2.2.2.2.2.2.2.2.2.2.2.1.Q6 o.2.2.2.2.2.2.2.2.2.2.2.2.2.2.2.2.2.2.2.2.2.2.2.1.Q4 o.2.2.2.2.2.2.2.2.2.2.2.2.2.2.2.2.2.2.2.2.2.2.2.2.1 o.2.2.2.2.2.2.2.2.2.2.2.2.2.2.2.2.2.2.2.2.2.2.2.2.2.1 o.2.2.2.2.2.2.2.2.2.2.2.2.2.2.2.2.2.2.2.2.2.2.2.2.2.2
noncomputable abbrev oF (o : K_Op) := Qah o.1 o.2.1 o.2.2.1 o.2.2.2.1 o.2.2.2.2.1.Q3 o.2.2.2.2.1.Q8 o.2.2.2.2.1.Q2 o.2.2.2.2.1.Qa o.2.2.2.2.1.Q5 o.2.2.2.2.1.Q9 o.2.2.2.2.1.Q1 o.2.2.2.2.1.Q6 o.2.2.2.2.1.Q4 o.2.2.2.2.2.1 o.2.2.2.2.2.2.1 o.2.2.2.2.2.2.2.1 o.2.2.2.2.2.2.2.2.1 o.2.2.2.2.2.2.2.2.2.1 o.2.2.2.2.2.2.2.2.2.2.1 o.2.2.2.2.2.2.2.2.2.2.2.1 o.2.2.2.2.2.2.2.2.2.2.2.2.1 o.2.2.2.2.2.2.2.2.2.2.2.2.2.1 o.2.2.2.2.2.2.2.2.2.2.2.2.2.2.1 o.2.2.2.2.2.2.2.2.2.2.2.2.2.2.2.1 o.2.2.2.2.2.2.2.2.2.2.2.2.2.2.2.2.1 o.2.2.2.2.2.2.2.2.2.2.2.2.2.2.2.2.2.1 o.2.2.2.2.2.2.2.2.2.2.2.2.2.2.2.2.2.2.1 o.2.2.2.2.2.2.2.2.2.2.2.2.2.2.2.2.2.2.2.1 o.2.2.2.2.2.2.2.2.2.2.2.2.2.2.2.2.2.2.2.2.1.Q3 o.2.2.2.2.2.2.2.2.2.2.2.2.2.2.2.2.2.2.2.2.1.Q8 o.2.2.2.2.2.2.2.2.2.2.2.2.2.2.2.2.2.2.2.2.1.Q2 o.2.2.2.2.2.2.2.2.2.2.2.2.2.2.2.2.2.2.2.2.1.Qa o.2.2.2.2.2.2.2.2.2.2.2.2.2.2.2.2.2.2.2.2.1.Q5 o.2.2.2.2.2.2.2.2.2.2.2.2.2.2.2.2.2.2.2.2.1.Q9 o.2.2.2.2.2.2.2.2.2.2.2.2.2.2.2.2.2.2.2.2.1.Q1 o.2.2.2.2.2.2.2.2.2.2.2.2.2.2.2.2.2.2.2.2.1.Q6 o.2.2.2.2.2.2.2.2.2.2.2.2.2.2.2.2.2.2.2.2.1.Q4 o.2.2.2.2.2.2.2.2.2.2.2.2.2.2.2.2.2.2.2.2.2.1 o.2.2.2.2.2.2.2.2.2.2.2.2.2.2.2.2.2.2.2.2.2.2.1 o.2.2.2.2.2.2.2.2.2.2.2.2.2.2.2.2.2.2.2.2.2.2.2.1.Q3 o.2.2.2.2.2.2.2.2.2.2.2.2.2.2.2.2.2.2.2.2.2.2.2.1.Q8 o.2.2.2.2.2.2.2.2.2.2.2.2.2.2.2.2.2.2.2.2.2.2.2.1.Q2 o.2.2.2.2.2.2.2.2.2.2.2.2.2.2.2.2.2.2.2.2.2.2.2.1.Qa o.2.2.2.2.2.2.2.2.2.2.2.2.2.2.2.2.2.2.2.2.2.2.2.1.Q5 o.2.2.2.2.2.2.2.2.2.2.2.2.2.2.2.2.2.2.2.2.2.2.2.1.Q9 o.2.2.2.2.2.2.2.2.2.2.2.2.2.2.2.2.2.2.2.2.2.2.2.1.Q1 o.2.2.2.2.2.2.2.2.2.2.2.2.2.2.2.2.2.2.2.2.2.2.2.1.Q6 o.2.2.2.2.2.2.2.2.2.2.2.2.2.2.2.2.2.2.2.2.2.2.2.1.Q4 o.2.2.2.2.2.2.2.2.2.2.2.2.2.2.2.2.2.2.2.2.2.2.2.2.1 o.2.2.2.2.2.2.2.2.2.2.2.2.2.2.2.2.2.2.2.2.2.2.2.2.2.1 o.2.2.2.2.2.2.2.2.2.2.2.2.2.2.2.2.2.2.2.2.2.2.2.2.2.2
noncomputable abbrev oI (o : K_Op) := QbG o.1 o.2.1 o.2.2.1 o.2.2.2.1 o.2.2.2.2.1.Q3 o.2.2.2.2.1.Q8 o.2.2.2.2.1.Q2 o.2.2.2.2.1.Qa o.2.2.2.2.1.Q5 o.2.2.2.2.1.Q9 o.2.2.2.2.1.Q1 o.2.2.2.2.1.Q6 o.2.2.2.2.1.Q4 o.2.2.2.2.2.1 o.2.2.2.2.2.2.1 o.2.2.2.2.2.2.2.1 o.2.2.2.2.2.2.2.2.1 o.2.2.2.2.2.2.2.2.2.1 o.2.2.2.2.2.2.2.2.2.2.1 o.2.2.2.2.2.2.2.2.2.2.2.1 o.2.2.2.2.2.2.2.2.2.2.2.2.1 o.2.2.2.2.2.2.2.2.2.2.2.2.2.1 o.2.2.2.2.2.2.2.2.2.2.2.2.2.2.1 o.2.2.2.2.2.2.2.2.2.2.2.2.2.2.2.1 o.2.2.2.2.2.2.2.2.2.2.2.2.2.2.2.2.1 o.2.2.2.2.2.2.2.2.2.2.2.2.2.2.2.2.2.1 o.2.2.2.2.2.2.2.2.2.2.2.2.2.2.2.2.2.2.1 o.2.2.2.2.2.2.2.2.2.2.2.2.2.2.2.2.2.2.2.1 o.2.2.2.2.2.2.2.2.2.2.2.2.2.2.2.2.2.2.2.2.1.Q3 o.2.2.2.2.2.2.2.2.2.2.2.2.2.2.2.2.2.2.2.2.1.Q8 o.2.2.2.2.2.2.2.2.2.2.2.2.2.2.2.2.2.2.2.2.1.Q2 o.2.2.2.2.2.2.2.2.2.2.2.2.2.2.2.2.2.2.2.2.1.Qa o.2.2.2.2.2.2.2.2.2.2.2.2.2.2.2.2.2.2.2.2.1.Q5 o.2.2.2.2.2.2.2.2.2.2.2.2.2.2.2.2.2.2.2.2.1.Q9 o.2.2.2.2.2.2.2.2.2.2.2.2.2.2.2.2.2.2.2.2.1.Q1 o.2.2.2.2.2.2.2.2.2.2.2.2.2.2.2.2.2.2.2.2.1.Q6 o.2.2.2.2.2.2.2.2.2.2.2.2.2.2.2.2.2.2.2.2.1.Q4 o.2.2.2.2.2.2.2.2.2.2.2.2.2.2.2.2.2.2.2.2.2.1 o.2.2.2.2.2.2.2.2.2.2.2.2.2.2.2.2.2.2.2.2.2.2.1 o.2.2.2.2.2.2.2.2.2.2.2.2.2.2.2.2.2.2.2.2.2.2.2.1.Q3 o.2.2.2.2.2.2.2.2.2.2.2.2.2.2.2.2.2.2.2.2.2.2.2.1.Q8 o.2.2.2.2.2.2.2.2.2.2.2.2.2.2.2.2.2.2.2.2.2.2.2.1.Q2 o.2.2.2.2.2.2.2.2.2.2.2.2.2.2.2.2.2.2.2.2.2.2.2.1.Qa o.2.2.2.2.2.2.2.2.2.2.2.2.2.2.2.2.2.2.2.2.2.2.2.1.Q5 o.2.2.2.2.2.2.2.2.2.2.2.2.2.2.2.2.2.2.2.2.2.2.2.1.Q9 o.2.2.2.2.2.2.2.2.2.2.2.2.2.2.2.2.2.2.2.2.2.2.2.1.Q1 o.2.2.2.2.2.2.2.2.2.2.2.2.2.2.2.2.2.2.2.2.2.2.2.1.Q6 o.2.2.2.2.2.2.2.2.2.2.2.2.2.2.2.2.2.2.2.2.2.2.2.1.Q4 o.2.2.2.2.2.2.2.2.2.2.2.2.2.2.2.2.2.2.2.2.2.2.2.2.1 o.2.2.2.2.2.2.2.2.2.2.2.2.2.2.2.2.2.2.2.2.2.2.2.2.2.1 o.2.2.2.2.2.2.2.2.2.2.2.2.2.2.2.2.2.2.2.2.2.2.2.2.2.2
theorem QoA (o : K_Op) (hk : o.1 = 1) : oS o = some (flT (opT true true false false false false false false o)) := by
  obtain ⟨x0, x1, x2, x3, x4, x5, x6, x7, x8, x9, x10, x11, x12, x13, x14, x15, x16, x17, x18, x19, x20, x21, x22, x23, x24, x25, x26⟩ := o
  dsimp only at hk
  subst hk
  exact (Q0B ..).trans rfl
theorem Qoi (o : K_Op) (hk : o.1 = 2) : oS o = some (flT (opT true true false true false false false false o)) := by
  obtain ⟨x0, x1, x2, x3, x4, x5, x6, x7, x8, x9, x10, x11, x12, x13, x14, x15, x16, x17, x18, x19, x20, x21, x22, x23, x24, x25, x26⟩ := o
  dsimp only at hk
  subst hk
  exact (Q0B ..).trans (Q26 ..)
theorem QoI (o : K_Op) (hk : o.1 = 3) : oS o = some (flT (opT true false false false false true false false o)) := by
  obtain ⟨x0, x1, x2, x3, x4, x5, x6, x7, x8, x9, x10, x11, x12, x13, x14, x15, x16, x17, x18, x19, x20, x21, x22, x23, x24, x25, x26⟩ := o
  dsimp only at hk
  subst hk
  exact (Q0B ..).trans rfl
theorem Qox (o : K_Op) (hk : o.1 = 4) : oS o = some (flT (opT true false false false true false false false o)) := by
  obtain ⟨x0, x1, x2, x3, x4, x5, x6, x7, x8, x9, x10, x11, x12, x13, x14, x15, x16, x17, x18, x19, x20, x21, x22, x23, x24, x25, x26⟩ := o
  dsimp only at hk
  subst hk
  exact (Q0B ..).trans rfl
theorem QoJ (o : K_Op) (hk : o.1 = 5) : oS o = some (flT (opT true false false false false false true false o)) := by
  obtain ⟨x0, x1, x2, x3, x4, x5, x6, x7, x8, x9, x10, x11, x12, x13, x14, x15, x16, x17, x18, x19, x20, x21, x22, x23, x24, x25, x26⟩ := o
  dsimp only at hk
  subst hk
  exact (Q0B ..).trans rfl
theorem Qoc (o : K_Op) (hk : o.1 = 6) : oS o = some (flT (opT true true false false false false false false o)) := by
  obtain ⟨x0, x1, x2, x3, x4, x5, x6, x7, x8, x9, x10, x11, x12, x13, x14, x15, x16, x17, x18, x19, x20, x21, x22, x23, x24, x25, x26⟩ := o
  dsimp only at hk
  subst hk
  exact (Q0B ..).trans rfl
theorem Qon (o : K_Op) (hk : o.1 = 7) : oS o = some (flT (opT true true true false false false false false o)) := by
  obtain ⟨x0, x1, x2, x3, x4, x5, x6, x7, x8, x9, x10, x11, x12, x13, x14, x15, x16, x17, x18, x19, x20, x21, x22, x23, x24, x25, x26⟩ := o
  dsimp only at hk
  subst hk
  exact (Q0B ..).trans (Q26 ..)
theorem Qor (o : K_Op) (hk : o.1 = 8) : oS o = some (flT (opT true true true false false false false false o)) := by
  obtain ⟨x0, x1, x2, x3, x4, x5, x6, x7, x8, x9, x10, x11, x12, x13, x14, x15, x16, x17, x18, x19, x20, x21, x22, x23, x24, x25, x26⟩ := o
  dsimp only at hk
  subst hk
  exact (Q0B ..).trans (Q26 ..)
theorem Qo9 (o : K_Op) (hk : o.1 = 9) : oS o = some (flT (opT true true false false false false false false o)) := by
  obtain ⟨x0, x1, x2, x3, x4, x5, x6, x7, x8, x9, x10, x11, x12, x13, x14, x15, x16, x17, x18, x19, x20, x21, x22, x23, x24, x25, x26⟩ := o
  dsimp only at hk
  subst hk
  exact (Q0B ..).trans rfl
theorem QmW (o : K_Op) (hk : o.1 = 10) : oS o = some (flT (opT true true false false false false false true o)) := by
  obtain ⟨x0, x1, x2, x3, x4, x5, x6, x7, x8, x9, x10, x11, x12, x13, x14, x15, x16, x17, x18, x19, x20, x21, x22, x23, x24, x25, x26⟩ := o
  dsimp only at hk
  subst hk
  exact (Q0B ..).trans (Q26 ..)
theorem QmI (o : K_Op) (hk : o.1 = 11) : oS o = some (flT (opT false false false false false false false false o)) := by
  obtain ⟨x0, x1, x2, x3, x4, x5, x6, x7, x8, x9, x10, x11, x12, x13, x14, x15, x16, x17, x18, x19, x20, x21, x22, x23, x24, x25, x26⟩ := o
  dsimp only at hk
  subst hk
  exact (Q0B ..).trans (Q26 ..)
theorem QmV (o : K_Op) (hk : o.1 = 12) : oS o = some (flT (opT false false false false false false false false o)) := by
  obtain ⟨x0, x1, x2, x3, x4, x5, x6, x7, x8, x9, x10, x11, x12, x13, x14, x15, x16, x17, x18, x19, x20, x21, x22, x23, x24, x25, x26⟩ := o
  dsimp only at hk
  subst hk
  exact (Q0B ..).trans (Q26 ..)
theorem Qr0 (s : ByteArray) (h : s.size ≤ 1048576) : Q32 s = some (Q1g (ofB s)) := by
  have := QdC (ofB s) (Q6f s) (by rw [ofB_len]; exact h)
  rwa [Q2q] at this
theorem Q5N (s : ByteArray) (h : s.size ≤ 1048576) : Q0X s = some (Q1g (ofB s)) := by
  have := QdA (ofB s) (Q6f s) (by rw [ofB_len]; exact h)
  rwa [Q2q] at this
def OpSz (o : K_Op) : Prop := o.2.1.size ≤ 1048576 ∧ o.2.2.2.1.size ≤ 1048576 ∧ (o.2.2.2.2.2.2.2.2.2.1.size ≤ 1048576 ∧ o.2.2.2.2.2.2.2.2.1.length ≤ 1048576) ∧ o.2.2.2.2.2.2.2.2.2.2.2.2.2.2.2.2.2.2.2.2.2.2.1.size ≤ 1048576 ∧ (o.2.2.2.2.2.2.2.2.2.2.2.2.2.2.2.2.2.2.2.2.2.2.2.2.2.1.size ≤ 1048576 ∧ ∀ m ∈ o.2.2.2.2.2.2.2.2.2.2.2.2.2.2.2.2.2.2.2.2.2.2.2.2.2.2, m.1.size ≤ 1048576)
noncomputable def Q1A (o : K_Op) : Bool := decide (o.1 ≥ 11) || (Q1g (ofB o.2.1) && cond (o.1 == 3) ((Q2g o.2.2.2.2.2.2.2.2.2.2.2.2.1 o.2.2.2.2.2.2.2.2.2.2.2.2.2.1 o.2.2.2.2.2.2.2.2.2.2.2.2.2.2.1 o.2.2.2.2.2.2.2.2.2.2.2.2.2.2.2.1 o.2.2.2.2.2.2.2.2.2.2.2.2.2.2.2.2.1 o.2.2.2.2.2.2.2.2.2.2.2.2.2.2.2.2.2.1 && decide ((o.2.2.2.2.2.2.2.2.2.2.2.2.2.2.2.2.2.2.1.size : Int) ≤ 14400))) (cond (o.1 == 4) (Q2b o.2.2.2.2.2.2.2.2.2.2.2.1) (cond (o.1 == 5) (atM o.2.2.2.2.2.2.2.2.2.2.2.2.2.2.2.2.2.2.2.1 o.2.2.2.2.2.2.2.2.2.2.2.2.2.2.2.2.2.2.2.2.1 o.2.2.2.2.2.2.2.2.2.2.2.2.2.2.2.2.2.2.2.2.2.1 o.2.2.2.2.2.2.2.2.2.2.2.2.2.2.2.2.2.2.2.2.2.2.1) (isNm o.2.2.1 && cond (o.1 == 2) ((dsM o.2.2.2.2.1 o.2.2.2.2.2.1 o.2.2.2.2.2.2.1 o.2.2.2.2.2.2.2.1 o.2.2.2.2.2.2.2.2.1 o.2.2.2.2.2.2.2.2.2.1 o.2.2.2.2.2.2.2.2.2.2.1 && o.2.2.2.2.2.2.2.2.2.2.1 == 0)) (cond (o.1 == 7) (Q1g (ofB o.2.2.2.1)) (cond (o.1 == 8) (Q1g (ofB o.2.2.2.1)) (cond (o.1 == 10) (vtM o.2.2.2.2.2.2.2.2.2.2.2.2.2.2.2.2.2.2.2.2.2.2.2.1 o.2.2.2.2.2.2.2.2.2.2.2.2.2.2.2.2.2.2.2.2.2.2.2.2.1 o.2.2.2.2.2.2.2.2.2.2.2.2.2.2.2.2.2.2.2.2.2.2.2.2.2.1 o.2.2.2.2.2.2.2.2.2.2.2.2.2.2.2.2.2.2.2.2.2.2.2.2.2.2) (true))))))))
theorem QqH {α : Type} (b : Bool) (x y : α) : sif b (some x) (some y) = some (cond b x y) := by cases b <;> rfl
theorem QrB (b c : Bool) : cond (!b) false c = (b && c) := by cases b <;> rfl
theorem Qrx (b c : Bool) : cond b c false = (b && c) := by cases b <;> rfl
theorem Qrz (b c : Bool) : cond b true c = (b || c) := by cases b <;> rfl
theorem Qs7 (b x : Bool) (y z : Bool) : cond b (cond b x y) z = cond b x z := by cases b <;> rfl
theorem Q3B (o : K_Op) (ho : Q0J o) (hs : OpSz o) (T : K_Op) (hT : oS o = some (flT T)) (h1 : 1 ≤ o.1) (h2 : o.1 ≤ 12) : oV o = some (eqB o T && Q1A o) := by
  obtain ⟨s1, s3, ⟨s9, s8⟩, s22, s25, s26⟩ := hs
  have e := Qnk o T ho
  unfold oV
  unfold oS at hT
  rw [QcA, Qeq, QaX, Qj h1, Q0, decide_eq_true h2, Bool.not_true, Qb, hT, Q0]
  dsimp only [flT]
  rw [e, Q0, Qr0 _ s1, Q0, Qcl, Q7u, Q0, Q0, QfX, Q3X, Q0, Q0, Qd3, Qky o.2.2.2.2.2.2.2.2.2.2.2.2.2.2.2.2.2.2.2.1 ho.2.2.2.2.2.2.2.2.2.2.2.2.2.2.2.2.2.2.2.1 _ ho.2.2.2.2.2.2.2.2.2.2.2.2.2.2.2.2.2.2.2.2.1 _ _ s22, Q0, Q0, Q2j, Q0, Qj9 o ho.2.2.2.2.1 s8 s9, Q0, Qr0 _ s3, Q0, QdZ, Qmd _ ho.2.2.2.2.2.2.2.2.2.2.2.2.2.2.2.2.2.2.2.2.2.2.2.1 _ _ s25 _ s26, Q0, Q0]
  simp only [QqH, QrB, Qrx, Qrz, Qs7, Q0]
  rfl
theorem Q0Z (o : K_Op) (ho : Q0J o) : Q55 o.2.2.1 = some (isNm o.2.2.1) := Q5I _ ho.2.2.1
theorem QlX (o : K_Op) (ho : Q0J o) (hs : OpSz o) (hk : o.1 = 1) : oF o = some (flT2 (opT true true false false false false false false o) (Q1A o)) := by
  have e1 := Q5N o.2.1 hs.1
  have e2 := Q0Z o ho
  clear ho hs
  obtain ⟨x0, x1, x2, x3, x4, x5, x6, x7, x8, x9, x10, x11, x12, x13, x14, x15, x16, x17, x18, x19, x20, x21, x22, x23, x24, x25, x26⟩ := o
  dsimp only at hk e1 e2
  subst hk
  refine (Q0c ..).trans ?_
  rw [e1, e2]
  unfold Q1A
  dsimp only
  generalize Q1g (ofB x1) = P at *
  generalize isNm x2 = N at *
  cases P <;> cases N <;> rfl
theorem QlN (o : K_Op) (ho : Q0J o) (hs : OpSz o) (hk : o.1 = 2) : oF o = some (flT2 (opT true true false true false false false false o) (Q1A o)) := by
  have e1 := Q5N o.2.1 hs.1
  have e2 := Q0Z o ho
  have e3 : Q3G o.2.2.2.2.1.Q3 o.2.2.2.2.1.Q8 o.2.2.2.2.1.Q2 o.2.2.2.2.1.Qa o.2.2.2.2.1.Q5 o.2.2.2.2.1.Q9 o.2.2.2.2.1.Q1 o.2.2.2.2.1.Q6 o.2.2.2.2.1.Q4 o.2.2.2.2.2.1 o.2.2.2.2.2.2.1 o.2.2.2.2.2.2.2.1 o.2.2.2.2.2.2.2.2.1 o.2.2.2.2.2.2.2.2.2.1 o.2.2.2.2.2.2.2.2.2.2.1 = some (dsM o.2.2.2.2.1 o.2.2.2.2.2.1 o.2.2.2.2.2.2.1 o.2.2.2.2.2.2.2.1 o.2.2.2.2.2.2.2.2.1 o.2.2.2.2.2.2.2.2.2.1 o.2.2.2.2.2.2.2.2.2.2.1) := QlF _ ho.2.2.2.2.1 _ _ _ _ hs.2.2.1.2 _ hs.2.2.1.1 _
  clear ho hs
  obtain ⟨x0, x1, x2, x3, x4, x5, x6, x7, x8, x9, x10, x11, x12, x13, x14, x15, x16, x17, x18, x19, x20, x21, x22, x23, x24, x25, x26⟩ := o
  dsimp only at hk e1 e2 e3
  subst hk
  refine (Q0c ..).trans ?_
  rw [e1, e2]
  unfold Q1A
  dsimp only
  generalize Q1g (ofB x1) = P at *
  generalize isNm x2 = N at *
  cases P <;> cases N <;> refine (Q0e ..).trans ?_
  all_goals first | rfl | skip
  all_goals (show sbind (Q3G x4.Q3 x4.Q8 x4.Q2 x4.Qa x4.Q5 x4.Q9 x4.Q1 x4.Q6 x4.Q4 x5 x6 x7 x8 x9 x10) _ = _ ; rw [e3])
  all_goals first | rfl | (rw [Q0]; generalize dsM x4 x5 x6 x7 x8 x9 x10 = Q; cases Q <;> rfl)
theorem QlO (o : K_Op) (ho : Q0J o) (hs : OpSz o) (hk : o.1 = 3) : oF o = some (flT2 (opT true false false false false true false false o) (Q1A o)) := by
  have e1 := Q5N o.2.1 hs.1
  have e2 := Q0Z o ho
  have e3 : Q17 o.2.2.2.2.2.2.2.2.2.2.2.2.1 o.2.2.2.2.2.2.2.2.2.2.2.2.2.1 o.2.2.2.2.2.2.2.2.2.2.2.2.2.2.1 o.2.2.2.2.2.2.2.2.2.2.2.2.2.2.2.1 o.2.2.2.2.2.2.2.2.2.2.2.2.2.2.2.2.1 o.2.2.2.2.2.2.2.2.2.2.2.2.2.2.2.2.2.1 = some (Q2g o.2.2.2.2.2.2.2.2.2.2.2.2.1 o.2.2.2.2.2.2.2.2.2.2.2.2.2.1 o.2.2.2.2.2.2.2.2.2.2.2.2.2.2.1 o.2.2.2.2.2.2.2.2.2.2.2.2.2.2.2.1 o.2.2.2.2.2.2.2.2.2.2.2.2.2.2.2.2.1 o.2.2.2.2.2.2.2.2.2.2.2.2.2.2.2.2.2.1) := Q9S _ _ _ _ _ _ (Qlw ho)
  clear ho hs
  obtain ⟨x0, x1, x2, x3, x4, x5, x6, x7, x8, x9, x10, x11, x12, x13, x14, x15, x16, x17, x18, x19, x20, x21, x22, x23, x24, x25, x26⟩ := o
  dsimp only at hk e1 e2 e3
  subst hk
  refine (Q0c ..).trans ?_
  rw [e1, e2]
  unfold Q1A
  dsimp only
  generalize Q1g (ofB x1) = P at *
  generalize isNm x2 = N at *
  cases P <;> cases N <;> refine (Q0e ..).trans ?_
  all_goals first | rfl | skip
  all_goals (show sbind (Q17 x12 x13 x14 x15 x16 x17) _ = _ ; rw [e3])
  all_goals first | rfl | (rw [Q0]; generalize Q2g x12 x13 x14 x15 x16 x17 = Q; cases Q <;> rfl)
theorem Qlo (o : K_Op) (ho : Q0J o) (hs : OpSz o) (hk : o.1 = 4) : oF o = some (flT2 (opT true false false false true false false false o) (Q1A o)) := by
  have e1 := Q5N o.2.1 hs.1
  have e2 := Q0Z o ho
  have e3 : Q1U o.2.2.2.2.2.2.2.2.2.2.2.1 = some (Q2b o.2.2.2.2.2.2.2.2.2.2.2.1) := Q5i _
  clear ho hs
  obtain ⟨x0, x1, x2, x3, x4, x5, x6, x7, x8, x9, x10, x11, x12, x13, x14, x15, x16, x17, x18, x19, x20, x21, x22, x23, x24, x25, x26⟩ := o
  dsimp only at hk e1 e2 e3
  subst hk
  refine (Q0c ..).trans ?_
  rw [e1, e2]
  unfold Q1A
  dsimp only
  generalize Q1g (ofB x1) = P at *
  generalize isNm x2 = N at *
  cases P <;> cases N <;> refine (Q0e ..).trans ?_
  all_goals first | rfl | skip
  all_goals (show sbind (Q1U x11) _ = _ ; rw [e3])
  all_goals first | rfl | (rw [Q0]; generalize Q2b x11 = Q; cases Q <;> rfl)
theorem QlA (o : K_Op) (ho : Q0J o) (hs : OpSz o) (hk : o.1 = 5) : oF o = some (flT2 (opT true false false false false false true false o) (Q1A o)) := by
  have e1 := Q5N o.2.1 hs.1
  have e2 := Q0Z o ho
  have e3 : Q2W o.2.2.2.2.2.2.2.2.2.2.2.2.2.2.2.2.2.2.2.1 o.2.2.2.2.2.2.2.2.2.2.2.2.2.2.2.2.2.2.2.2.1.Q3 o.2.2.2.2.2.2.2.2.2.2.2.2.2.2.2.2.2.2.2.2.1.Q8 o.2.2.2.2.2.2.2.2.2.2.2.2.2.2.2.2.2.2.2.2.1.Q2 o.2.2.2.2.2.2.2.2.2.2.2.2.2.2.2.2.2.2.2.2.1.Qa o.2.2.2.2.2.2.2.2.2.2.2.2.2.2.2.2.2.2.2.2.1.Q5 o.2.2.2.2.2.2.2.2.2.2.2.2.2.2.2.2.2.2.2.2.1.Q9 o.2.2.2.2.2.2.2.2.2.2.2.2.2.2.2.2.2.2.2.2.1.Q1 o.2.2.2.2.2.2.2.2.2.2.2.2.2.2.2.2.2.2.2.2.1.Q6 o.2.2.2.2.2.2.2.2.2.2.2.2.2.2.2.2.2.2.2.2.1.Q4 o.2.2.2.2.2.2.2.2.2.2.2.2.2.2.2.2.2.2.2.2.2.1 o.2.2.2.2.2.2.2.2.2.2.2.2.2.2.2.2.2.2.2.2.2.2.1 = some (atM o.2.2.2.2.2.2.2.2.2.2.2.2.2.2.2.2.2.2.2.1 o.2.2.2.2.2.2.2.2.2.2.2.2.2.2.2.2.2.2.2.2.1 o.2.2.2.2.2.2.2.2.2.2.2.2.2.2.2.2.2.2.2.2.2.1 o.2.2.2.2.2.2.2.2.2.2.2.2.2.2.2.2.2.2.2.2.2.2.1) := Ql8 _ ho.2.2.2.2.2.2.2.2.2.2.2.2.2.2.2.2.2.2.2.1 _ ho.2.2.2.2.2.2.2.2.2.2.2.2.2.2.2.2.2.2.2.2.1 _ _ hs.2.2.2.1
  clear ho hs
  obtain ⟨x0, x1, x2, x3, x4, x5, x6, x7, x8, x9, x10, x11, x12, x13, x14, x15, x16, x17, x18, x19, x20, x21, x22, x23, x24, x25, x26⟩ := o
  dsimp only at hk e1 e2 e3
  subst hk
  refine (Q0c ..).trans ?_
  rw [e1, e2]
  unfold Q1A
  dsimp only
  generalize Q1g (ofB x1) = P at *
  generalize isNm x2 = N at *
  cases P <;> cases N <;> refine (Q0e ..).trans ?_
  all_goals first | rfl | skip
  all_goals (show sbind (Q2W x19 x20.Q3 x20.Q8 x20.Q2 x20.Qa x20.Q5 x20.Q9 x20.Q1 x20.Q6 x20.Q4 x21 x22) _ = _ ; rw [e3])
  all_goals first | rfl | (rw [Q0]; generalize atM x19 x20 x21 x22 = Q; cases Q <;> rfl)
theorem Qm6 (o : K_Op) (ho : Q0J o) (hs : OpSz o) (hk : o.1 = 6) : oF o = some (flT2 (opT true true false false false false false false o) (Q1A o)) := by
  have e1 := Q5N o.2.1 hs.1
  have e2 := Q0Z o ho
  clear ho hs
  obtain ⟨x0, x1, x2, x3, x4, x5, x6, x7, x8, x9, x10, x11, x12, x13, x14, x15, x16, x17, x18, x19, x20, x21, x22, x23, x24, x25, x26⟩ := o
  dsimp only at hk e1 e2
  subst hk
  refine (Q0c ..).trans ?_
  rw [e1, e2]
  unfold Q1A
  dsimp only
  generalize Q1g (ofB x1) = P at *
  generalize isNm x2 = N at *
  cases P <;> cases N <;> rfl
theorem Qlx (o : K_Op) (ho : Q0J o) (hs : OpSz o) (hk : o.1 = 7) : oF o = some (flT2 (opT true true true false false false false false o) (Q1A o)) := by
  have e1 := Q5N o.2.1 hs.1
  have e2 := Q0Z o ho
  have e3 : Q0X o.2.2.2.1 = some (Q1g (ofB o.2.2.2.1)) := Q5N _ hs.2.1
  clear ho hs
  obtain ⟨x0, x1, x2, x3, x4, x5, x6, x7, x8, x9, x10, x11, x12, x13, x14, x15, x16, x17, x18, x19, x20, x21, x22, x23, x24, x25, x26⟩ := o
  dsimp only at hk e1 e2 e3
  subst hk
  refine (Q0c ..).trans ?_
  rw [e1, e2]
  unfold Q1A
  dsimp only
  generalize Q1g (ofB x1) = P at *
  generalize isNm x2 = N at *
  cases P <;> cases N <;> refine (Q0e ..).trans ?_
  all_goals first | rfl | skip
  all_goals (show sbind (Q0X x3) _ = _ ; rw [e3])
  all_goals first | rfl | (rw [Q0]; generalize Q1g (x0fB x3) = Q; cases Q <;> rfl)
theorem Qmt (o : K_Op) (ho : Q0J o) (hs : OpSz o) (hk : o.1 = 8) : oF o = some (flT2 (opT true true true false false false false false o) (Q1A o)) := by
  have e1 := Q5N o.2.1 hs.1
  have e2 := Q0Z o ho
  have e3 : Q0X o.2.2.2.1 = some (Q1g (ofB o.2.2.2.1)) := Q5N _ hs.2.1
  clear ho hs
  obtain ⟨x0, x1, x2, x3, x4, x5, x6, x7, x8, x9, x10, x11, x12, x13, x14, x15, x16, x17, x18, x19, x20, x21, x22, x23, x24, x25, x26⟩ := o
  dsimp only at hk e1 e2 e3
  subst hk
  refine (Q0c ..).trans ?_
  rw [e1, e2]
  unfold Q1A
  dsimp only
  generalize Q1g (ofB x1) = P at *
  generalize isNm x2 = N at *
  cases P <;> cases N <;> refine (Q0e ..).trans ?_
  all_goals first | rfl | skip
  all_goals (show sbind (Q0X x3) _ = _ ; rw [e3])
  all_goals first | rfl | (rw [Q0]; generalize Q1g (x0fB x3) = Q; cases Q <;> rfl)
theorem QlH (o : K_Op) (ho : Q0J o) (hs : OpSz o) (hk : o.1 = 9) : oF o = some (flT2 (opT true true false false false false false false o) (Q1A o)) := by
  have e1 := Q5N o.2.1 hs.1
  have e2 := Q0Z o ho
  clear ho hs
  obtain ⟨x0, x1, x2, x3, x4, x5, x6, x7, x8, x9, x10, x11, x12, x13, x14, x15, x16, x17, x18, x19, x20, x21, x22, x23, x24, x25, x26⟩ := o
  dsimp only at hk e1 e2
  subst hk
  refine (Q0c ..).trans ?_
  rw [e1, e2]
  unfold Q1A
  dsimp only
  generalize Q1g (ofB x1) = P at *
  generalize isNm x2 = N at *
  cases P <;> cases N <;> rfl
theorem QkG (o : K_Op) (ho : Q0J o) (hs : OpSz o) (hk : o.1 = 10) : oF o = some (flT2 (opT true true false false false false false true o) (Q1A o)) := by
  have e1 := Q5N o.2.1 hs.1
  have e2 := Q0Z o ho
  have e3 : Q2P o.2.2.2.2.2.2.2.2.2.2.2.2.2.2.2.2.2.2.2.2.2.2.2.1.Q3 o.2.2.2.2.2.2.2.2.2.2.2.2.2.2.2.2.2.2.2.2.2.2.2.1.Q8 o.2.2.2.2.2.2.2.2.2.2.2.2.2.2.2.2.2.2.2.2.2.2.2.1.Q2 o.2.2.2.2.2.2.2.2.2.2.2.2.2.2.2.2.2.2.2.2.2.2.2.1.Qa o.2.2.2.2.2.2.2.2.2.2.2.2.2.2.2.2.2.2.2.2.2.2.2.1.Q5 o.2.2.2.2.2.2.2.2.2.2.2.2.2.2.2.2.2.2.2.2.2.2.2.1.Q9 o.2.2.2.2.2.2.2.2.2.2.2.2.2.2.2.2.2.2.2.2.2.2.2.1.Q1 o.2.2.2.2.2.2.2.2.2.2.2.2.2.2.2.2.2.2.2.2.2.2.2.1.Q6 o.2.2.2.2.2.2.2.2.2.2.2.2.2.2.2.2.2.2.2.2.2.2.2.1.Q4 o.2.2.2.2.2.2.2.2.2.2.2.2.2.2.2.2.2.2.2.2.2.2.2.2.1 o.2.2.2.2.2.2.2.2.2.2.2.2.2.2.2.2.2.2.2.2.2.2.2.2.2.1 o.2.2.2.2.2.2.2.2.2.2.2.2.2.2.2.2.2.2.2.2.2.2.2.2.2.2 = some (vtM o.2.2.2.2.2.2.2.2.2.2.2.2.2.2.2.2.2.2.2.2.2.2.2.1 o.2.2.2.2.2.2.2.2.2.2.2.2.2.2.2.2.2.2.2.2.2.2.2.2.1 o.2.2.2.2.2.2.2.2.2.2.2.2.2.2.2.2.2.2.2.2.2.2.2.2.2.1 o.2.2.2.2.2.2.2.2.2.2.2.2.2.2.2.2.2.2.2.2.2.2.2.2.2.2) := Qmg _ ho.2.2.2.2.2.2.2.2.2.2.2.2.2.2.2.2.2.2.2.2.2.2.2.1 _ _ hs.2.2.2.2.1 _ hs.2.2.2.2.2 (fun m hm => QrD (ho.2.2.2.2.2.2.2.2.2.2.2.2.2.2.2.2.2.2.2.2.2.2.2.2.2.2.2.2 m hm))
  clear ho hs
  obtain ⟨x0, x1, x2, x3, x4, x5, x6, x7, x8, x9, x10, x11, x12, x13, x14, x15, x16, x17, x18, x19, x20, x21, x22, x23, x24, x25, x26⟩ := o
  dsimp only at hk e1 e2 e3
  subst hk
  refine (Q0c ..).trans ?_
  rw [e1, e2]
  unfold Q1A
  dsimp only
  generalize Q1g (ofB x1) = P at *
  generalize isNm x2 = N at *
  cases P <;> cases N <;> refine (Q0e ..).trans ?_
  all_goals first | rfl | skip
  all_goals (show sbind (Q2P x23.Q3 x23.Q8 x23.Q2 x23.Qa x23.Q5 x23.Q9 x23.Q1 x23.Q6 x23.Q4 x24 x25 x26) _ = _ ; rw [e3])
  all_goals first | rfl | (rw [Q0]; generalize vtM x23 x24 x25 x26 = Q; cases Q <;> rfl)
theorem Qkz (o : K_Op) (ho : Q0J o) (hs : OpSz o) (hk : o.1 = 11) : oF o = some (flT2 (opT false false false false false false false false o) (Q1A o)) := by
  have e1 := Q5N o.2.1 hs.1
  have e2 := Q0Z o ho
  clear ho hs
  obtain ⟨x0, x1, x2, x3, x4, x5, x6, x7, x8, x9, x10, x11, x12, x13, x14, x15, x16, x17, x18, x19, x20, x21, x22, x23, x24, x25, x26⟩ := o
  dsimp only at hk e1 e2
  subst hk
  refine (Q0c ..).trans ?_
  rw [e1, e2]
  unfold Q1A
  dsimp only
  generalize Q1g (ofB x1) = P at *
  generalize isNm x2 = N at *
  cases P <;> cases N <;> exact Q0e ..
theorem Ql5 (o : K_Op) (ho : Q0J o) (hs : OpSz o) (hk : o.1 = 12) : oF o = some (flT2 (opT false false false false false false false false o) (Q1A o)) := by
  have e1 := Q5N o.2.1 hs.1
  have e2 := Q0Z o ho
  clear ho hs
  obtain ⟨x0, x1, x2, x3, x4, x5, x6, x7, x8, x9, x10, x11, x12, x13, x14, x15, x16, x17, x18, x19, x20, x21, x22, x23, x24, x25, x26⟩ := o
  dsimp only at hk e1 e2
  subst hk
  refine (Q0c ..).trans ?_
  rw [e1, e2]
  unfold Q1A
  dsimp only
  generalize Q1g (ofB x1) = P at *
  generalize isNm x2 = N at *
  cases P <;> cases N <;> exact Q0e ..
theorem Q6c (o : K_Op) (ho : Q0J o) (T : K_Op) (hT : oF o = some (flT2 T (Q1A o))) : oI o = some (Q1A o && eqB o T) := by
  have e := QmL o T ho
  unfold oI
  unfold oF at hT
  rw [Qcr, hT, Q0]
  show sif (Q1A o) (sbind (Qaj o.1 o.2.1 o.2.2.1 o.2.2.2.1 o.2.2.2.2.1.Q3 o.2.2.2.2.1.Q8 o.2.2.2.2.1.Q2 o.2.2.2.2.1.Qa o.2.2.2.2.1.Q5 o.2.2.2.2.1.Q9 o.2.2.2.2.1.Q1 o.2.2.2.2.1.Q6 o.2.2.2.2.1.Q4 o.2.2.2.2.2.1 o.2.2.2.2.2.2.1 o.2.2.2.2.2.2.2.1 o.2.2.2.2.2.2.2.2.1 o.2.2.2.2.2.2.2.2.2.1 o.2.2.2.2.2.2.2.2.2.2.1 o.2.2.2.2.2.2.2.2.2.2.2.1 o.2.2.2.2.2.2.2.2.2.2.2.2.1 o.2.2.2.2.2.2.2.2.2.2.2.2.2.1 o.2.2.2.2.2.2.2.2.2.2.2.2.2.2.1 o.2.2.2.2.2.2.2.2.2.2.2.2.2.2.2.1 o.2.2.2.2.2.2.2.2.2.2.2.2.2.2.2.2.1 o.2.2.2.2.2.2.2.2.2.2.2.2.2.2.2.2.2.1 o.2.2.2.2.2.2.2.2.2.2.2.2.2.2.2.2.2.2.1 o.2.2.2.2.2.2.2.2.2.2.2.2.2.2.2.2.2.2.2.1 o.2.2.2.2.2.2.2.2.2.2.2.2.2.2.2.2.2.2.2.2.1.Q3 o.2.2.2.2.2.2.2.2.2.2.2.2.2.2.2.2.2.2.2.2.1.Q8 o.2.2.2.2.2.2.2.2.2.2.2.2.2.2.2.2.2.2.2.2.1.Q2 o.2.2.2.2.2.2.2.2.2.2.2.2.2.2.2.2.2.2.2.2.1.Qa o.2.2.2.2.2.2.2.2.2.2.2.2.2.2.2.2.2.2.2.2.1.Q5 o.2.2.2.2.2.2.2.2.2.2.2.2.2.2.2.2.2.2.2.2.1.Q9 o.2.2.2.2.2.2.2.2.2.2.2.2.2.2.2.2.2.2.2.2.1.Q1 o.2.2.2.2.2.2.2.2.2.2.2.2.2.2.2.2.2.2.2.2.1.Q6 o.2.2.2.2.2.2.2.2.2.2.2.2.2.2.2.2.2.2.2.2.1.Q4 o.2.2.2.2.2.2.2.2.2.2.2.2.2.2.2.2.2.2.2.2.2.1 o.2.2.2.2.2.2.2.2.2.2.2.2.2.2.2.2.2.2.2.2.2.2.1 o.2.2.2.2.2.2.2.2.2.2.2.2.2.2.2.2.2.2.2.2.2.2.2.1.Q3 o.2.2.2.2.2.2.2.2.2.2.2.2.2.2.2.2.2.2.2.2.2.2.2.1.Q8 o.2.2.2.2.2.2.2.2.2.2.2.2.2.2.2.2.2.2.2.2.2.2.2.1.Q2 o.2.2.2.2.2.2.2.2.2.2.2.2.2.2.2.2.2.2.2.2.2.2.2.1.Qa o.2.2.2.2.2.2.2.2.2.2.2.2.2.2.2.2.2.2.2.2.2.2.2.1.Q5 o.2.2.2.2.2.2.2.2.2.2.2.2.2.2.2.2.2.2.2.2.2.2.2.1.Q9 o.2.2.2.2.2.2.2.2.2.2.2.2.2.2.2.2.2.2.2.2.2.2.2.1.Q1 o.2.2.2.2.2.2.2.2.2.2.2.2.2.2.2.2.2.2.2.2.2.2.2.1.Q6 o.2.2.2.2.2.2.2.2.2.2.2.2.2.2.2.2.2.2.2.2.2.2.2.1.Q4 o.2.2.2.2.2.2.2.2.2.2.2.2.2.2.2.2.2.2.2.2.2.2.2.2.1 o.2.2.2.2.2.2.2.2.2.2.2.2.2.2.2.2.2.2.2.2.2.2.2.2.2.1 o.2.2.2.2.2.2.2.2.2.2.2.2.2.2.2.2.2.2.2.2.2.2.2.2.2.2 T.1 T.2.1 T.2.2.1 T.2.2.2.1 T.2.2.2.2.1.Q3 T.2.2.2.2.1.Q8 T.2.2.2.2.1.Q2 T.2.2.2.2.1.Qa T.2.2.2.2.1.Q5 T.2.2.2.2.1.Q9 T.2.2.2.2.1.Q1 T.2.2.2.2.1.Q6 T.2.2.2.2.1.Q4 T.2.2.2.2.2.1 T.2.2.2.2.2.2.1 T.2.2.2.2.2.2.2.1 T.2.2.2.2.2.2.2.2.1 T.2.2.2.2.2.2.2.2.2.1 T.2.2.2.2.2.2.2.2.2.2.1 T.2.2.2.2.2.2.2.2.2.2.2.1 T.2.2.2.2.2.2.2.2.2.2.2.2.1 T.2.2.2.2.2.2.2.2.2.2.2.2.2.1 T.2.2.2.2.2.2.2.2.2.2.2.2.2.2.1 T.2.2.2.2.2.2.2.2.2.2.2.2.2.2.2.1 T.2.2.2.2.2.2.2.2.2.2.2.2.2.2.2.2.1 T.2.2.2.2.2.2.2.2.2.2.2.2.2.2.2.2.2.1 T.2.2.2.2.2.2.2.2.2.2.2.2.2.2.2.2.2.2.1 T.2.2.2.2.2.2.2.2.2.2.2.2.2.2.2.2.2.2.2.1 T.2.2.2.2.2.2.2.2.2.2.2.2.2.2.2.2.2.2.2.2.1.Q3 T.2.2.2.2.2.2.2.2.2.2.2.2.2.2.2.2.2.2.2.2.1.Q8 T.2.2.2.2.2.2.2.2.2.2.2.2.2.2.2.2.2.2.2.2.1.Q2 T.2.2.2.2.2.2.2.2.2.2.2.2.2.2.2.2.2.2.2.2.1.Qa T.2.2.2.2.2.2.2.2.2.2.2.2.2.2.2.2.2.2.2.2.1.Q5 T.2.2.2.2.2.2.2.2.2.2.2.2.2.2.2.2.2.2.2.2.1.Q9 T.2.2.2.2.2.2.2.2.2.2.2.2.2.2.2.2.2.2.2.2.1.Q1 T.2.2.2.2.2.2.2.2.2.2.2.2.2.2.2.2.2.2.2.2.1.Q6 T.2.2.2.2.2.2.2.2.2.2.2.2.2.2.2.2.2.2.2.2.1.Q4 T.2.2.2.2.2.2.2.2.2.2.2.2.2.2.2.2.2.2.2.2.2.1 T.2.2.2.2.2.2.2.2.2.2.2.2.2.2.2.2.2.2.2.2.2.2.1 T.2.2.2.2.2.2.2.2.2.2.2.2.2.2.2.2.2.2.2.2.2.2.2.1.Q3 T.2.2.2.2.2.2.2.2.2.2.2.2.2.2.2.2.2.2.2.2.2.2.2.1.Q8 T.2.2.2.2.2.2.2.2.2.2.2.2.2.2.2.2.2.2.2.2.2.2.2.1.Q2 T.2.2.2.2.2.2.2.2.2.2.2.2.2.2.2.2.2.2.2.2.2.2.2.1.Qa T.2.2.2.2.2.2.2.2.2.2.2.2.2.2.2.2.2.2.2.2.2.2.2.1.Q5 T.2.2.2.2.2.2.2.2.2.2.2.2.2.2.2.2.2.2.2.2.2.2.2.1.Q9 T.2.2.2.2.2.2.2.2.2.2.2.2.2.2.2.2.2.2.2.2.2.2.2.1.Q1 T.2.2.2.2.2.2.2.2.2.2.2.2.2.2.2.2.2.2.2.2.2.2.2.1.Q6 T.2.2.2.2.2.2.2.2.2.2.2.2.2.2.2.2.2.2.2.2.2.2.2.1.Q4 T.2.2.2.2.2.2.2.2.2.2.2.2.2.2.2.2.2.2.2.2.2.2.2.2.1 T.2.2.2.2.2.2.2.2.2.2.2.2.2.2.2.2.2.2.2.2.2.2.2.2.2.1 T.2.2.2.2.2.2.2.2.2.2.2.2.2.2.2.2.2.2.2.2.2.2.2.2.2.2) fun r2 => some r2) (some false) = _
  rw [e, Q0, Qu]
theorem QrV (o : K_Op) (ho : Q0J o) (hs : OpSz o) (hb : ¬ (1 ≤ o.1 ∧ o.1 ≤ 12)) : oI o = some false := by
  have e1 := Q5N o.2.1 hs.1
  have e2 := Q0Z o ho
  have n1 : (o.1 == 1) = false := beq_eq_false_iff_ne.2 (by omega)
  have n2 : (o.1 == 2) = false := beq_eq_false_iff_ne.2 (by omega)
  have n3 : (o.1 == 3) = false := beq_eq_false_iff_ne.2 (by omega)
  have n4 : (o.1 == 4) = false := beq_eq_false_iff_ne.2 (by omega)
  have n5 : (o.1 == 5) = false := beq_eq_false_iff_ne.2 (by omega)
  have n6 : (o.1 == 6) = false := beq_eq_false_iff_ne.2 (by omega)
  have n7 : (o.1 == 7) = false := beq_eq_false_iff_ne.2 (by omega)
  have n8 : (o.1 == 8) = false := beq_eq_false_iff_ne.2 (by omega)
  have n9 : (o.1 == 9) = false := beq_eq_false_iff_ne.2 (by omega)
  have n10 : (o.1 == 10) = false := beq_eq_false_iff_ne.2 (by omega)
  have n11 : (o.1 == 11) = false := beq_eq_false_iff_ne.2 (by omega)
  have n12 : (o.1 == 12) = false := beq_eq_false_iff_ne.2 (by omega)
  unfold oI
  rw [Qcr, Q0c, e1, Q0, e2, Q0]
  generalize Q1g _ = P
  generalize isNm _ = N
  cases P <;> cases N <;> simp only [n1, n2, n3, n4, n5, n6, n7, n8, n9, n10, n11, n12, Qf, Qb, Q0, Q0e]
theorem QrJ (o : K_Op) (hb : ¬ (1 ≤ o.1 ∧ o.1 ≤ 12)) : oV o = some false := by
  unfold oV
  rw [QcA, Qeq, QaX]
  by_cases h1 : o.1 ≥ 1
  · rw [Qj h1, decide_eq_false (by omega)]; rfl
  · rw [Qi h1]; rfl
theorem QrO (o : K_Op) (ho : Q0J o) (hs : OpSz o) : ∃ b, oV o = some b ∧ oI o = some b := by
  by_cases h : 1 ≤ o.1 ∧ o.1 ≤ 12
  · have hk : o.1 = 1 ∨ o.1 = 2 ∨ o.1 = 3 ∨ o.1 = 4 ∨ o.1 = 5 ∨ o.1 = 6 ∨ o.1 = 7 ∨ o.1 = 8 ∨ o.1 = 9 ∨ o.1 = 10 ∨ o.1 = 11 ∨ o.1 = 12 := by omega
    rcases hk with hk | hk | hk | hk | hk | hk | hk | hk | hk | hk | hk | hk
    · exact ⟨_, Q3B o ho hs _ (QoA o hk) h.1 h.2, (Q6c o ho _ (QlX o ho hs hk)).trans (by rw [Bool.and_comm])⟩
    · exact ⟨_, Q3B o ho hs _ (Qoi o hk) h.1 h.2, (Q6c o ho _ (QlN o ho hs hk)).trans (by rw [Bool.and_comm])⟩
    · exact ⟨_, Q3B o ho hs _ (QoI o hk) h.1 h.2, (Q6c o ho _ (QlO o ho hs hk)).trans (by rw [Bool.and_comm])⟩
    · exact ⟨_, Q3B o ho hs _ (Qox o hk) h.1 h.2, (Q6c o ho _ (Qlo o ho hs hk)).trans (by rw [Bool.and_comm])⟩
    · exact ⟨_, Q3B o ho hs _ (QoJ o hk) h.1 h.2, (Q6c o ho _ (QlA o ho hs hk)).trans (by rw [Bool.and_comm])⟩
    · exact ⟨_, Q3B o ho hs _ (Qoc o hk) h.1 h.2, (Q6c o ho _ (Qm6 o ho hs hk)).trans (by rw [Bool.and_comm])⟩
    · exact ⟨_, Q3B o ho hs _ (Qon o hk) h.1 h.2, (Q6c o ho _ (Qlx o ho hs hk)).trans (by rw [Bool.and_comm])⟩
    · exact ⟨_, Q3B o ho hs _ (Qor o hk) h.1 h.2, (Q6c o ho _ (Qmt o ho hs hk)).trans (by rw [Bool.and_comm])⟩
    · exact ⟨_, Q3B o ho hs _ (Qo9 o hk) h.1 h.2, (Q6c o ho _ (QlH o ho hs hk)).trans (by rw [Bool.and_comm])⟩
    · exact ⟨_, Q3B o ho hs _ (QmW o hk) h.1 h.2, (Q6c o ho _ (QkG o ho hs hk)).trans (by rw [Bool.and_comm])⟩
    · exact ⟨_, Q3B o ho hs _ (QmI o hk) h.1 h.2, (Q6c o ho _ (Qkz o ho hs hk)).trans (by rw [Bool.and_comm])⟩
    · exact ⟨_, Q3B o ho hs _ (QmV o hk) h.1 h.2, (Q6c o ho _ (Ql5 o ho hs hk)).trans (by rw [Bool.and_comm])⟩
  · exact ⟨false, QrJ o h, QrV o ho hs h⟩
theorem Q4W {α β : Type} {o : Option α} {f : α → Option β} {r : β} (h : sbind o f = some r) : ∃ x, o = some x ∧ f x = some r := by
  cases o with
  | none => cases h
  | some x => exact ⟨x, rfl, h⟩
theorem Q2t {x r : Int} {K : Option Int} (h : sif (decide (x < 0)) (some (-1)) K = some r) (hr : 0 ≤ r) : 0 ≤ x ∧ K = some r := by
  by_cases c : x < 0
  · rw [Qj c] at h
    injection h with h
    omega
  · rw [Qi c] at h
    exact ⟨by omega, h⟩
theorem Qaa {o : Option Int} {r : Int} (h : TotM o) (e : o = some r) : r ≤ 1048576 := by
  obtain ⟨r2, e2, _, h2⟩ := h
  rw [e2] at e
  injection e with e
  omega
theorem Qqq (t : Q7) (SD SM C : List Int) (F : List (Int × Int × Bool)) (b : ByteArray) (ix : Int) (h : Q4V (t, SD, SM, C, F, b, ix)) (left : Int) (h0 : 0 ≤ left) (h1 : left ≤ 1048576) (r : Int)
    (hz : Q3V t.Q3 t.Q8 t.Q2 t.Qa t.Q5 t.Q9 t.Q1 t.Q6 t.Q4 SD SM C F b ix left = some r) (hr : 0 ≤ r) : b.size ≤ 1048576 ∧ F.length ≤ 1048576 := by
  obtain ⟨hok, hD, hM, hC, hF, hb, _⟩ := h
  dsimp only at hok hD hM hC hF hb
  have hFl : F.length ≤ 140737488351232 := Qn hF.2.1 (by omega)
  rw [Qb4] at hz
  obtain ⟨r1, q1, hz⟩ := Q4W hz
  obtain ⟨g1, hz⟩ := Q2t hz hr
  have u1 := Qaa (Qh3 t hok left h0 h1) q1
  obtain ⟨r2, q2, hz⟩ := Q4W hz
  obtain ⟨g2, hz⟩ := Q2t hz hr
  have u2 := Qaa (QjZ (SD, SM) ⟨hD, hM⟩ r1 g1 u1) q2
  obtain ⟨r3, q3, hz⟩ := Q4W hz
  obtain ⟨g3, hz⟩ := Q2t hz hr
  have u3 := Qaa (Qbr C hC r2 g2 u2) q3
  obtain ⟨r4, q4, hz⟩ := Q4W hz
  obtain ⟨g4, hz⟩ := Q2t hz hr
  rw [Qb9] at q4
  obtain ⟨g5, q4⟩ := Q2t q4 g4
  rw [Qq (by omega) (by omega)] at g5 q4
  injection q4 with q4
  obtain ⟨g6, hz⟩ := Q2t hz hr
  rw [Qq (by omega) (by omega)] at g6
  omega
theorem QqW (o : K_Op) (ho : Q0J o) (r : Int) (hz : QaC o.1 o.2.1 o.2.2.1 o.2.2.2.1 o.2.2.2.2.1.Q3 o.2.2.2.2.1.Q8 o.2.2.2.2.1.Q2 o.2.2.2.2.1.Qa o.2.2.2.2.1.Q5 o.2.2.2.2.1.Q9 o.2.2.2.2.1.Q1 o.2.2.2.2.1.Q6 o.2.2.2.2.1.Q4 o.2.2.2.2.2.1 o.2.2.2.2.2.2.1 o.2.2.2.2.2.2.2.1 o.2.2.2.2.2.2.2.2.1 o.2.2.2.2.2.2.2.2.2.1 o.2.2.2.2.2.2.2.2.2.2.1 o.2.2.2.2.2.2.2.2.2.2.2.1 o.2.2.2.2.2.2.2.2.2.2.2.2.1 o.2.2.2.2.2.2.2.2.2.2.2.2.2.1 o.2.2.2.2.2.2.2.2.2.2.2.2.2.2.1 o.2.2.2.2.2.2.2.2.2.2.2.2.2.2.2.1 o.2.2.2.2.2.2.2.2.2.2.2.2.2.2.2.2.1 o.2.2.2.2.2.2.2.2.2.2.2.2.2.2.2.2.2.1 o.2.2.2.2.2.2.2.2.2.2.2.2.2.2.2.2.2.2.1 o.2.2.2.2.2.2.2.2.2.2.2.2.2.2.2.2.2.2.2.1 o.2.2.2.2.2.2.2.2.2.2.2.2.2.2.2.2.2.2.2.2.1.Q3 o.2.2.2.2.2.2.2.2.2.2.2.2.2.2.2.2.2.2.2.2.1.Q8 o.2.2.2.2.2.2.2.2.2.2.2.2.2.2.2.2.2.2.2.2.1.Q2 o.2.2.2.2.2.2.2.2.2.2.2.2.2.2.2.2.2.2.2.2.1.Qa o.2.2.2.2.2.2.2.2.2.2.2.2.2.2.2.2.2.2.2.2.1.Q5 o.2.2.2.2.2.2.2.2.2.2.2.2.2.2.2.2.2.2.2.2.1.Q9 o.2.2.2.2.2.2.2.2.2.2.2.2.2.2.2.2.2.2.2.2.1.Q1 o.2.2.2.2.2.2.2.2.2.2.2.2.2.2.2.2.2.2.2.2.1.Q6 o.2.2.2.2.2.2.2.2.2.2.2.2.2.2.2.2.2.2.2.2.1.Q4 o.2.2.2.2.2.2.2.2.2.2.2.2.2.2.2.2.2.2.2.2.2.1 o.2.2.2.2.2.2.2.2.2.2.2.2.2.2.2.2.2.2.2.2.2.2.1 o.2.2.2.2.2.2.2.2.2.2.2.2.2.2.2.2.2.2.2.2.2.2.2.1.Q3 o.2.2.2.2.2.2.2.2.2.2.2.2.2.2.2.2.2.2.2.2.2.2.2.1.Q8 o.2.2.2.2.2.2.2.2.2.2.2.2.2.2.2.2.2.2.2.2.2.2.2.1.Q2 o.2.2.2.2.2.2.2.2.2.2.2.2.2.2.2.2.2.2.2.2.2.2.2.1.Qa o.2.2.2.2.2.2.2.2.2.2.2.2.2.2.2.2.2.2.2.2.2.2.2.1.Q5 o.2.2.2.2.2.2.2.2.2.2.2.2.2.2.2.2.2.2.2.2.2.2.2.1.Q9 o.2.2.2.2.2.2.2.2.2.2.2.2.2.2.2.2.2.2.2.2.2.2.2.1.Q1 o.2.2.2.2.2.2.2.2.2.2.2.2.2.2.2.2.2.2.2.2.2.2.2.1.Q6 o.2.2.2.2.2.2.2.2.2.2.2.2.2.2.2.2.2.2.2.2.2.2.2.1.Q4 o.2.2.2.2.2.2.2.2.2.2.2.2.2.2.2.2.2.2.2.2.2.2.2.2.1 o.2.2.2.2.2.2.2.2.2.2.2.2.2.2.2.2.2.2.2.2.2.2.2.2.2.1 o.2.2.2.2.2.2.2.2.2.2.2.2.2.2.2.2.2.2.2.2.2.2.2.2.2.2 1048576 = some r) (hr : 0 ≤ r) : OpSz o := by
  have w1 : o.2.1.size ≤ 140737488351232 := ho.2.1
  have w2 : o.2.2.1.size ≤ 140737488351232 := ho.2.2.1
  have w3 : o.2.2.2.1.size ≤ 140737488351232 := ho.2.2.2.1
  have w18 : o.2.2.2.2.2.2.2.2.2.2.2.2.2.2.2.2.2.2.1.size ≤ 140737488351232 := ho.2.2.2.2.2.2.2.2.2.2.2.2.2.2.2.2.2.2.1
  rw [Qfe] at hz
  have k1 : wi64 (1048576 - (o.2.1.size : Int)) = 1048576 - (o.2.1.size : Int) := Qq (by omega) (by omega)
  rw [k1] at hz
  obtain ⟨g1, hz⟩ := Q2t hz hr
  have k2 : wi64 (1048576 - (o.2.1.size : Int) - (o.2.2.1.size : Int)) = 1048576 - (o.2.1.size : Int) - (o.2.2.1.size : Int) := Qq (by omega) (by omega)
  rw [k2] at hz
  obtain ⟨g2, hz⟩ := Q2t hz hr
  have k3 : wi64 (1048576 - (o.2.1.size : Int) - (o.2.2.1.size : Int) - (o.2.2.2.1.size : Int)) = 1048576 - (o.2.1.size : Int) - (o.2.2.1.size : Int) - (o.2.2.2.1.size : Int) := Qq (by omega) (by omega)
  rw [k3] at hz
  obtain ⟨g3, hz⟩ := Q2t hz hr
  obtain ⟨r1, q1, hz⟩ := Q4W hz
  obtain ⟨g4, hz⟩ := Q2t hz hr
  have u1 := Qqq _ _ _ _ _ _ _ ⟨ho.2.2.2.2.1, ho.2.2.2.2.2.1, ho.2.2.2.2.2.2.1, ho.2.2.2.2.2.2.2.1, ho.2.2.2.2.2.2.2.2.1, ho.2.2.2.2.2.2.2.2.2.1, ho.2.2.2.2.2.2.2.2.2.2.1⟩ _ (by omega) (by omega) r1 q1 g4
  have v1 := Qaa (Qgz (o.2.2.2.2.1, o.2.2.2.2.2.1, o.2.2.2.2.2.2.1, o.2.2.2.2.2.2.2.1, o.2.2.2.2.2.2.2.2.1, o.2.2.2.2.2.2.2.2.2.1, o.2.2.2.2.2.2.2.2.2.2.1) ⟨ho.2.2.2.2.1, ho.2.2.2.2.2.1, ho.2.2.2.2.2.2.1, ho.2.2.2.2.2.2.2.1, ho.2.2.2.2.2.2.2.2.1, ho.2.2.2.2.2.2.2.2.2.1, ho.2.2.2.2.2.2.2.2.2.2.1⟩ _ (by omega) (by omega)) q1
  obtain ⟨r2, q2, hz⟩ := Q4W hz
  obtain ⟨g5, hz⟩ := Q2t hz hr
  have v2 := Qaa (Qbr _ ho.2.2.2.2.2.2.2.2.2.2.2.1 r1 g4 v1) q2
  obtain ⟨r3, q3, hz⟩ := Q4W hz
  obtain ⟨g6, hz⟩ := Q2t hz hr
  have v3 := Qaa (Q89 (o.2.2.2.2.2.2.2.2.2.2.2.2.1, o.2.2.2.2.2.2.2.2.2.2.2.2.2.1, o.2.2.2.2.2.2.2.2.2.2.2.2.2.2.1, o.2.2.2.2.2.2.2.2.2.2.2.2.2.2.2.1, o.2.2.2.2.2.2.2.2.2.2.2.2.2.2.2.2.1, o.2.2.2.2.2.2.2.2.2.2.2.2.2.2.2.2.2.1) ⟨ho.2.2.2.2.2.2.2.2.2.2.2.2.1, ho.2.2.2.2.2.2.2.2.2.2.2.2.2.1, ho.2.2.2.2.2.2.2.2.2.2.2.2.2.2.1, ho.2.2.2.2.2.2.2.2.2.2.2.2.2.2.2.1, ho.2.2.2.2.2.2.2.2.2.2.2.2.2.2.2.2.1, ho.2.2.2.2.2.2.2.2.2.2.2.2.2.2.2.2.2.1⟩ r2 g5 v2) q3
  obtain ⟨g7, hz⟩ := Q2t hz hr
  rw [Qq (by omega) (by omega)] at g7 hz
  obtain ⟨r4, q4, hz⟩ := Q4W hz
  obtain ⟨g8, hz⟩ := Q2t hz hr
  have v4 := Qaa (Qet (o.2.2.2.2.2.2.2.2.2.2.2.2.2.2.2.2.2.2.2.1, o.2.2.2.2.2.2.2.2.2.2.2.2.2.2.2.2.2.2.2.2.1, o.2.2.2.2.2.2.2.2.2.2.2.2.2.2.2.2.2.2.2.2.2.1, o.2.2.2.2.2.2.2.2.2.2.2.2.2.2.2.2.2.2.2.2.2.2.1) ⟨ho.2.2.2.2.2.2.2.2.2.2.2.2.2.2.2.2.2.2.2.1, ho.2.2.2.2.2.2.2.2.2.2.2.2.2.2.2.2.2.2.2.2.1, ho.2.2.2.2.2.2.2.2.2.2.2.2.2.2.2.2.2.2.2.2.2.1, ho.2.2.2.2.2.2.2.2.2.2.2.2.2.2.2.2.2.2.2.2.2.2.1⟩ _ (by omega) (by omega)) q4
  have u4 : o.2.2.2.2.2.2.2.2.2.2.2.2.2.2.2.2.2.2.2.2.2.2.1.size ≤ 1048576 := by
    have w19 : o.2.2.2.2.2.2.2.2.2.2.2.2.2.2.2.2.2.2.2.1.size ≤ 140737488351232 := ho.2.2.2.2.2.2.2.2.2.2.2.2.2.2.2.2.2.2.2.1
    rw [Q9D] at q4
    obtain ⟨g9, q4⟩ := Q2t q4 g8
    rw [Qq (by omega) (by omega)] at g9 q4
    obtain ⟨r6, q6, q4⟩ := Q4W q4
    obtain ⟨g10, q4⟩ := Q2t q4 g8
    obtain ⟨r7, e7, _, b7⟩ := Qnv _ ho.2.2.2.2.2.2.2.2.2.2.2.2.2.2.2.2.2.2.2.2.1 _ ho.2.2.2.2.2.2.2.2.2.2.2.2.2.2.2.2.2.2.2.2.2.1 _ ho.2.2.2.2.2.2.2.2.2.2.2.2.2.2.2.2.2.2.2.2.2.2.1 (r3 - (o.2.2.2.2.2.2.2.2.2.2.2.2.2.2.2.2.2.2.1.size : Int) - (o.2.2.2.2.2.2.2.2.2.2.2.2.2.2.2.2.2.2.2.1.size : Int)) (by omega) (by omega)
    rw [e7] at q6
    injection q6 with q6
    exact b7 (by omega)
  obtain ⟨r5, q5, hz⟩ := Q4W hz
  obtain ⟨g11, hz⟩ := Q2t hz hr
  obtain ⟨r8, e8, _, b8⟩ := Qo3 _ _ _ _ ⟨ho.2.2.2.2.2.2.2.2.2.2.2.2.2.2.2.2.2.2.2.2.2.2.2.1, ho.2.2.2.2.2.2.2.2.2.2.2.2.2.2.2.2.2.2.2.2.2.2.2.2.1, ho.2.2.2.2.2.2.2.2.2.2.2.2.2.2.2.2.2.2.2.2.2.2.2.2.2.1, ho.2.2.2.2.2.2.2.2.2.2.2.2.2.2.2.2.2.2.2.2.2.2.2.2.2.2⟩ r4 g8 v4
  rw [e8] at q5
  injection q5 with q5
  exact ⟨by omega, by omega, u1, u4, b8 (by omega)⟩
theorem Qqg (o : K_Op) (ho : Q0J o) : Q4n o.1 o.2.1 o.2.2.1 o.2.2.2.1 o.2.2.2.2.1.Q3 o.2.2.2.2.1.Q8 o.2.2.2.2.1.Q2 o.2.2.2.2.1.Qa o.2.2.2.2.1.Q5 o.2.2.2.2.1.Q9 o.2.2.2.2.1.Q1 o.2.2.2.2.1.Q6 o.2.2.2.2.1.Q4 o.2.2.2.2.2.1 o.2.2.2.2.2.2.1 o.2.2.2.2.2.2.2.1 o.2.2.2.2.2.2.2.2.1 o.2.2.2.2.2.2.2.2.2.1 o.2.2.2.2.2.2.2.2.2.2.1 o.2.2.2.2.2.2.2.2.2.2.2.1 o.2.2.2.2.2.2.2.2.2.2.2.2.1 o.2.2.2.2.2.2.2.2.2.2.2.2.2.1 o.2.2.2.2.2.2.2.2.2.2.2.2.2.2.1 o.2.2.2.2.2.2.2.2.2.2.2.2.2.2.2.1 o.2.2.2.2.2.2.2.2.2.2.2.2.2.2.2.2.1 o.2.2.2.2.2.2.2.2.2.2.2.2.2.2.2.2.2.1 o.2.2.2.2.2.2.2.2.2.2.2.2.2.2.2.2.2.2.1 o.2.2.2.2.2.2.2.2.2.2.2.2.2.2.2.2.2.2.2.1 o.2.2.2.2.2.2.2.2.2.2.2.2.2.2.2.2.2.2.2.2.1.Q3 o.2.2.2.2.2.2.2.2.2.2.2.2.2.2.2.2.2.2.2.2.1.Q8 o.2.2.2.2.2.2.2.2.2.2.2.2.2.2.2.2.2.2.2.2.1.Q2 o.2.2.2.2.2.2.2.2.2.2.2.2.2.2.2.2.2.2.2.2.1.Qa o.2.2.2.2.2.2.2.2.2.2.2.2.2.2.2.2.2.2.2.2.1.Q5 o.2.2.2.2.2.2.2.2.2.2.2.2.2.2.2.2.2.2.2.2.1.Q9 o.2.2.2.2.2.2.2.2.2.2.2.2.2.2.2.2.2.2.2.2.1.Q1 o.2.2.2.2.2.2.2.2.2.2.2.2.2.2.2.2.2.2.2.2.1.Q6 o.2.2.2.2.2.2.2.2.2.2.2.2.2.2.2.2.2.2.2.2.1.Q4 o.2.2.2.2.2.2.2.2.2.2.2.2.2.2.2.2.2.2.2.2.2.1 o.2.2.2.2.2.2.2.2.2.2.2.2.2.2.2.2.2.2.2.2.2.2.1 o.2.2.2.2.2.2.2.2.2.2.2.2.2.2.2.2.2.2.2.2.2.2.2.1.Q3 o.2.2.2.2.2.2.2.2.2.2.2.2.2.2.2.2.2.2.2.2.2.2.2.1.Q8 o.2.2.2.2.2.2.2.2.2.2.2.2.2.2.2.2.2.2.2.2.2.2.2.1.Q2 o.2.2.2.2.2.2.2.2.2.2.2.2.2.2.2.2.2.2.2.2.2.2.2.1.Qa o.2.2.2.2.2.2.2.2.2.2.2.2.2.2.2.2.2.2.2.2.2.2.2.1.Q5 o.2.2.2.2.2.2.2.2.2.2.2.2.2.2.2.2.2.2.2.2.2.2.2.1.Q9 o.2.2.2.2.2.2.2.2.2.2.2.2.2.2.2.2.2.2.2.2.2.2.2.1.Q1 o.2.2.2.2.2.2.2.2.2.2.2.2.2.2.2.2.2.2.2.2.2.2.2.1.Q6 o.2.2.2.2.2.2.2.2.2.2.2.2.2.2.2.2.2.2.2.2.2.2.2.1.Q4 o.2.2.2.2.2.2.2.2.2.2.2.2.2.2.2.2.2.2.2.2.2.2.2.2.1 o.2.2.2.2.2.2.2.2.2.2.2.2.2.2.2.2.2.2.2.2.2.2.2.2.2.1 o.2.2.2.2.2.2.2.2.2.2.2.2.2.2.2.2.2.2.2.2.2.2.2.2.2.2 = some true := by
  obtain ⟨r1, e1, _, _⟩ := QrN o ho 1048576 (by decide) (by decide)
  rw [QcN, e1, Q0]
  by_cases c1 : r1 < 0
  · rw [Qj c1]
  · rw [Qi c1]
    obtain ⟨b, e2, e3⟩ := QrO o ho (QqW o ho r1 e1 (by omega))
    rw [QrY o ho]
    simp only [Q0]
    unfold oV at e2
    unfold oI at e3
    rw [e2, e3, QrK o ho]
    simp only [Q0, beq_self_eq_true, Bool.not_true, Qb]
theorem QeO (Qja : Int) (Qjf : ByteArray) (Qjs : ByteArray) (Qf6 : ByteArray) (Q8h : Int) (Q8k : Int) (Qat : Bool) (QcC : Bool) (Q3H : List ByteArray) (Q4e : List Int) (Q2X : List (ByteArray × Int × Q7)) (Q46 : List Q7) (Q7H : Int) (Q3E : List Int) (Q48 : List Int) (Q6V : List Int) (Q5w : List (Int × Int × Bool)) (QcL : ByteArray) (QbZ : Int) (Qde : List Int) (Qd5 : Int) (Q7b : List Int) (Q62 : List Int) (Q70 : List Int) (Q6R : List Int) (Q61 : List (List Int)) (Qj1 : ByteArray) (QbK : ByteArray) (Q4r : Int) (Q4u : Int) (Q6x : Bool) (Q7P : Bool) (Q1C : List ByteArray) (Q1Z : List Int) (Q1d : List (ByteArray × Int × Q7)) (Q1Y : List Q7) (Q49 : Int) (Q3k : List Int) (Q78 : ByteArray) (Q5W : Int) (Q5T : Int) (Q7Z : Bool) (Q9I : Bool) (Q2v : List ByteArray) (Q2G : List Int) (Q1V : List (ByteArray × Int × Q7)) (Q2I : List Q7) (Q5p : Int) (Q4I : List Int) (Q9d : ByteArray) (Q4O : List (ByteArray × Int × List Int × List Int × List Int × List Int × List (List Int) × Int × List Int × List Int × List Int × List Int × List (List Int))) (O0 : ((Lit.int .i64 Qja).wf = true) ∧ (Qjf.size ≤ 140737488351232) ∧ (Qjs.size ≤ 140737488351232) ∧ (Qf6.size ≤ 140737488351232) ∧ ((Lit.int .i64 Q8h).wf = true) ∧ ((Lit.int .i64 Q8k).wf = true) ∧ (True) ∧ (True) ∧ (Q3H.length ≤ maxLen ∧ Q3H.length * 16 ≤ 140737488351232 ∧ ∀ e__ ∈ Q3H, e__.size ≤ 140737488351232) ∧ (Q4e.length ≤ maxLen ∧ Q4e.length * 8 ≤ 140737488351232 ∧ ∀ e__ ∈ Q4e, (Lit.int .i64 e__).wf = true) ∧ (Q2X.length ≤ maxLen ∧ Q2X.length * 152 ≤ 140737488351232 ∧ ∀ e__ ∈ Q2X, (e__.1.size ≤ 140737488351232) ∧ ((Lit.int .i64 e__.2.1).wf = true) ∧ (Qd e__.2.2)) ∧ (Q46.length ≤ maxLen ∧ Q46.length * 128 ≤ 140737488351232 ∧ ∀ e__ ∈ Q46, Qd e__) ∧ ((Lit.int .i64 Q7H).wf = true) ∧ (Q3E.length ≤ maxLen ∧ Q3E.length * 8 ≤ 140737488351232 ∧ ∀ e__ ∈ Q3E, (Lit.int .i64 e__).wf = true) ∧ (Q48.length ≤ maxLen ∧ Q48.length * 8 ≤ 140737488351232 ∧ ∀ e__ ∈ Q48, (Lit.int .i64 e__).wf = true) ∧ (Q6V.length ≤ maxLen ∧ Q6V.length * 8 ≤ 140737488351232 ∧ ∀ e_ ∈ Q6V, (Lit.int .i64 e_).wf = true) ∧ (Q5w.length ≤ maxLen ∧ Q5w.length * 24 ≤ 140737488351232 ∧ ∀ e_ ∈ Q5w, ((Lit.int .i64 e_.1).wf = true) ∧ ((Lit.int .i64 e_.2.1).wf = true) ∧ (True)) ∧ (QcL.size ≤ 140737488351232) ∧ ((Lit.int .i64 QbZ).wf = true) ∧ (Qde.length ≤ maxLen ∧ Qde.length * 8 ≤ 140737488351232 ∧ ∀ e_ ∈ Qde, (Lit.int .i64 e_).wf = true) ∧ ((Lit.int .i64 Qd5).wf = true) ∧ (Q7b.length ≤ maxLen ∧ Q7b.length * 8 ≤ 140737488351232 ∧ ∀ e_ ∈ Q7b, (Lit.int .i64 e_).wf = true) ∧ (Q62.length ≤ maxLen ∧ Q62.length * 8 ≤ 140737488351232 ∧ ∀ e_ ∈ Q62, (Lit.int .i64 e_).wf = true) ∧ (Q70.length ≤ maxLen ∧ Q70.length * 8 ≤ 140737488351232 ∧ ∀ e_ ∈ Q70, (Lit.int .i64 e_).wf = true) ∧ (Q6R.length ≤ maxLen ∧ Q6R.length * 8 ≤ 140737488351232 ∧ ∀ e_ ∈ Q6R, (Lit.int .i64 e_).wf = true) ∧ (Q61.length ≤ maxLen ∧ Q61.length * 24 ≤ 140737488351232 ∧ ∀ e_ ∈ Q61, e_.length ≤ maxLen ∧ e_.length * 8 ≤ 140737488351232 ∧ ∀ e__ ∈ e_, (Lit.int .i64 e__).wf = true) ∧ (Qj1.size ≤ 140737488351232) ∧ (QbK.size ≤ 140737488351232) ∧ ((Lit.int .i64 Q4r).wf = true) ∧ ((Lit.int .i64 Q4u).wf = true) ∧ (True) ∧ (True) ∧ (Q1C.length ≤ maxLen ∧ Q1C.length * 16 ≤ 140737488351232 ∧ ∀ e__ ∈ Q1C, e__.size ≤ 140737488351232) ∧ (Q1Z.length ≤ maxLen ∧ Q1Z.length * 8 ≤ 140737488351232 ∧ ∀ e__ ∈ Q1Z, (Lit.int .i64 e__).wf = true) ∧ (Q1d.length ≤ maxLen ∧ Q1d.length * 152 ≤ 140737488351232 ∧ ∀ e__ ∈ Q1d, (e__.1.size ≤ 140737488351232) ∧ ((Lit.int .i64 e__.2.1).wf = true) ∧ (Qd e__.2.2)) ∧ (Q1Y.length ≤ maxLen ∧ Q1Y.length * 128 ≤ 140737488351232 ∧ ∀ e__ ∈ Q1Y, Qd e__) ∧ ((Lit.int .i64 Q49).wf = true) ∧ (Q3k.length ≤ maxLen ∧ Q3k.length * 8 ≤ 140737488351232 ∧ ∀ e__ ∈ Q3k, (Lit.int .i64 e__).wf = true) ∧ (Q78.size ≤ 140737488351232) ∧ ((Lit.int .i64 Q5W).wf = true) ∧ ((Lit.int .i64 Q5T).wf = true) ∧ (True) ∧ (True) ∧ (Q2v.length ≤ maxLen ∧ Q2v.length * 16 ≤ 140737488351232 ∧ ∀ e__ ∈ Q2v, e__.size ≤ 140737488351232) ∧ (Q2G.length ≤ maxLen ∧ Q2G.length * 8 ≤ 140737488351232 ∧ ∀ e__ ∈ Q2G, (Lit.int .i64 e__).wf = true) ∧ (Q1V.length ≤ maxLen ∧ Q1V.length * 152 ≤ 140737488351232 ∧ ∀ e__ ∈ Q1V, (e__.1.size ≤ 140737488351232) ∧ ((Lit.int .i64 e__.2.1).wf = true) ∧ (Qd e__.2.2)) ∧ (Q2I.length ≤ maxLen ∧ Q2I.length * 128 ≤ 140737488351232 ∧ ∀ e__ ∈ Q2I, Qd e__) ∧ ((Lit.int .i64 Q5p).wf = true) ∧ (Q4I.length ≤ maxLen ∧ Q4I.length * 8 ≤ 140737488351232 ∧ ∀ e_ ∈ Q4I, (Lit.int .i64 e_).wf = true) ∧ (Q9d.size ≤ 140737488351232) ∧ (Q4O.length ≤ maxLen ∧ Q4O.length * 272 ≤ 140737488351232 ∧ ∀ e_ ∈ Q4O, (e_.1.size ≤ 140737488351232) ∧ ((Lit.int .i64 e_.2.1).wf = true) ∧ (e_.2.2.1.length ≤ maxLen ∧ e_.2.2.1.length * 8 ≤ 140737488351232 ∧ ∀ e__ ∈ e_.2.2.1, (Lit.int .i64 e__).wf = true) ∧ (e_.2.2.2.1.length ≤ maxLen ∧ e_.2.2.2.1.length * 8 ≤ 140737488351232 ∧ ∀ e__ ∈ e_.2.2.2.1, (Lit.int .i64 e__).wf = true) ∧ (e_.2.2.2.2.1.length ≤ maxLen ∧ e_.2.2.2.2.1.length * 8 ≤ 140737488351232 ∧ ∀ e__ ∈ e_.2.2.2.2.1, (Lit.int .i64 e__).wf = true) ∧ (e_.2.2.2.2.2.1.length ≤ maxLen ∧ e_.2.2.2.2.2.1.length * 8 ≤ 140737488351232 ∧ ∀ e__ ∈ e_.2.2.2.2.2.1, (Lit.int .i64 e__).wf = true) ∧ (e_.2.2.2.2.2.2.1.length ≤ maxLen ∧ e_.2.2.2.2.2.2.1.length * 24 ≤ 140737488351232 ∧ ∀ e__ ∈ e_.2.2.2.2.2.2.1, e__.length ≤ maxLen ∧ e__.length * 8 ≤ 140737488351232 ∧ ∀ e___ ∈ e__, (Lit.int .i64 e___).wf = true) ∧ ((Lit.int .i64 e_.2.2.2.2.2.2.2.1).wf = true) ∧ (e_.2.2.2.2.2.2.2.2.1.length ≤ maxLen ∧ e_.2.2.2.2.2.2.2.2.1.length * 8 ≤ 140737488351232 ∧ ∀ e__ ∈ e_.2.2.2.2.2.2.2.2.1, (Lit.int .i64 e__).wf = true) ∧ (e_.2.2.2.2.2.2.2.2.2.1.length ≤ maxLen ∧ e_.2.2.2.2.2.2.2.2.2.1.length * 8 ≤ 140737488351232 ∧ ∀ e__ ∈ e_.2.2.2.2.2.2.2.2.2.1, (Lit.int .i64 e__).wf = true) ∧ (e_.2.2.2.2.2.2.2.2.2.2.1.length ≤ maxLen ∧ e_.2.2.2.2.2.2.2.2.2.2.1.length * 8 ≤ 140737488351232 ∧ ∀ e__ ∈ e_.2.2.2.2.2.2.2.2.2.2.1, (Lit.int .i64 e__).wf = true) ∧ (e_.2.2.2.2.2.2.2.2.2.2.2.1.length ≤ maxLen ∧ e_.2.2.2.2.2.2.2.2.2.2.2.1.length * 8 ≤ 140737488351232 ∧ ∀ e__ ∈ e_.2.2.2.2.2.2.2.2.2.2.2.1, (Lit.int .i64 e__).wf = true) ∧ (e_.2.2.2.2.2.2.2.2.2.2.2.2.length ≤ maxLen ∧ e_.2.2.2.2.2.2.2.2.2.2.2.2.length * 24 ≤ 140737488351232 ∧ ∀ e__ ∈ e_.2.2.2.2.2.2.2.2.2.2.2.2, e__.length ≤ maxLen ∧ e__.length * 8 ≤ 140737488351232 ∧ ∀ e___ ∈ e__, (Lit.int .i64 e___).wf = true))) : Q4n Qja Qjf Qjs Qf6 Q8h Q8k Qat QcC Q3H Q4e Q2X Q46 Q7H Q3E Q48 Q6V Q5w QcL QbZ Qde Qd5 Q7b Q62 Q70 Q6R Q61 Qj1 QbK Q4r Q4u Q6x Q7P Q1C Q1Z Q1d Q1Y Q49 Q3k Q78 Q5W Q5T Q7Z Q9I Q2v Q2G Q1V Q2I Q5p Q4I Q9d Q4O = some true := Qqg (Qja, Qjf, Qjs, Qf6, (Q7.mk Q8h Q8k Qat QcC Q3H Q4e Q2X Q46 Q7H), Q3E, Q48, Q6V, Q5w, QcL, QbZ, Qde, Qd5, Q7b, Q62, Q70, Q6R, Q61, Qj1, QbK, (Q7.mk Q4r Q4u Q6x Q7P Q1C Q1Z Q1d Q1Y Q49), Q3k, Q78, (Q7.mk Q5W Q5T Q7Z Q9I Q2v Q2G Q1V Q2I Q5p), Q4I, Q9d, Q4O) (⟨O0.1, O0.2.1, O0.2.2.1, O0.2.2.2.1, .mk _ ⟨O0.2.2.2.2.1, O0.2.2.2.2.2.1, O0.2.2.2.2.2.2.1, O0.2.2.2.2.2.2.2.1, O0.2.2.2.2.2.2.2.2.1, O0.2.2.2.2.2.2.2.2.2.1, O0.2.2.2.2.2.2.2.2.2.2.1, O0.2.2.2.2.2.2.2.2.2.2.2.1, O0.2.2.2.2.2.2.2.2.2.2.2.2.1⟩, O0.2.2.2.2.2.2.2.2.2.2.2.2.2.1, O0.2.2.2.2.2.2.2.2.2.2.2.2.2.2.1, O0.2.2.2.2.2.2.2.2.2.2.2.2.2.2.2.1, O0.2.2.2.2.2.2.2.2.2.2.2.2.2.2.2.2.1, O0.2.2.2.2.2.2.2.2.2.2.2.2.2.2.2.2.2.1, O0.2.2.2.2.2.2.2.2.2.2.2.2.2.2.2.2.2.2.1, O0.2.2.2.2.2.2.2.2.2.2.2.2.2.2.2.2.2.2.2.1, O0.2.2.2.2.2.2.2.2.2.2.2.2.2.2.2.2.2.2.2.2.1, O0.2.2.2.2.2.2.2.2.2.2.2.2.2.2.2.2.2.2.2.2.2.1, O0.2.2.2.2.2.2.2.2.2.2.2.2.2.2.2.2.2.2.2.2.2.2.1, O0.2.2.2.2.2.2.2.2.2.2.2.2.2.2.2.2.2.2.2.2.2.2.2.1, O0.2.2.2.2.2.2.2.2.2.2.2.2.2.2.2.2.2.2.2.2.2.2.2.2.1, O0.2.2.2.2.2.2.2.2.2.2.2.2.2.2.2.2.2.2.2.2.2.2.2.2.2.1, O0.2.2.2.2.2.2.2.2.2.2.2.2.2.2.2.2.2.2.2.2.2.2.2.2.2.2.1, O0.2.2.2.2.2.2.2.2.2.2.2.2.2.2.2.2.2.2.2.2.2.2.2.2.2.2.2.1, .mk _ ⟨O0.2.2.2.2.2.2.2.2.2.2.2.2.2.2.2.2.2.2.2.2.2.2.2.2.2.2.2.2.1, O0.2.2.2.2.2.2.2.2.2.2.2.2.2.2.2.2.2.2.2.2.2.2.2.2.2.2.2.2.2.1, O0.2.2.2.2.2.2.2.2.2.2.2.2.2.2.2.2.2.2.2.2.2.2.2.2.2.2.2.2.2.2.1, O0.2.2.2.2.2.2.2.2.2.2.2.2.2.2.2.2.2.2.2.2.2.2.2.2.2.2.2.2.2.2.2.1, O0.2.2.2.2.2.2.2.2.2.2.2.2.2.2.2.2.2.2.2.2.2.2.2.2.2.2.2.2.2.2.2.2.1, O0.2.2.2.2.2.2.2.2.2.2.2.2.2.2.2.2.2.2.2.2.2.2.2.2.2.2.2.2.2.2.2.2.2.1, O0.2.2.2.2.2.2.2.2.2.2.2.2.2.2.2.2.2.2.2.2.2.2.2.2.2.2.2.2.2.2.2.2.2.2.1, O0.2.2.2.2.2.2.2.2.2.2.2.2.2.2.2.2.2.2.2.2.2.2.2.2.2.2.2.2.2.2.2.2.2.2.2.1, O0.2.2.2.2.2.2.2.2.2.2.2.2.2.2.2.2.2.2.2.2.2.2.2.2.2.2.2.2.2.2.2.2.2.2.2.2.1⟩, O0.2.2.2.2.2.2.2.2.2.2.2.2.2.2.2.2.2.2.2.2.2.2.2.2.2.2.2.2.2.2.2.2.2.2.2.2.2.1, O0.2.2.2.2.2.2.2.2.2.2.2.2.2.2.2.2.2.2.2.2.2.2.2.2.2.2.2.2.2.2.2.2.2.2.2.2.2.2.1, .mk _ ⟨O0.2.2.2.2.2.2.2.2.2.2.2.2.2.2.2.2.2.2.2.2.2.2.2.2.2.2.2.2.2.2.2.2.2.2.2.2.2.2.2.1, O0.2.2.2.2.2.2.2.2.2.2.2.2.2.2.2.2.2.2.2.2.2.2.2.2.2.2.2.2.2.2.2.2.2.2.2.2.2.2.2.2.1, O0.2.2.2.2.2.2.2.2.2.2.2.2.2.2.2.2.2.2.2.2.2.2.2.2.2.2.2.2.2.2.2.2.2.2.2.2.2.2.2.2.2.1, O0.2.2.2.2.2.2.2.2.2.2.2.2.2.2.2.2.2.2.2.2.2.2.2.2.2.2.2.2.2.2.2.2.2.2.2.2.2.2.2.2.2.2.1, O0.2.2.2.2.2.2.2.2.2.2.2.2.2.2.2.2.2.2.2.2.2.2.2.2.2.2.2.2.2.2.2.2.2.2.2.2.2.2.2.2.2.2.2.1, O0.2.2.2.2.2.2.2.2.2.2.2.2.2.2.2.2.2.2.2.2.2.2.2.2.2.2.2.2.2.2.2.2.2.2.2.2.2.2.2.2.2.2.2.2.1, O0.2.2.2.2.2.2.2.2.2.2.2.2.2.2.2.2.2.2.2.2.2.2.2.2.2.2.2.2.2.2.2.2.2.2.2.2.2.2.2.2.2.2.2.2.2.1, O0.2.2.2.2.2.2.2.2.2.2.2.2.2.2.2.2.2.2.2.2.2.2.2.2.2.2.2.2.2.2.2.2.2.2.2.2.2.2.2.2.2.2.2.2.2.2.1, O0.2.2.2.2.2.2.2.2.2.2.2.2.2.2.2.2.2.2.2.2.2.2.2.2.2.2.2.2.2.2.2.2.2.2.2.2.2.2.2.2.2.2.2.2.2.2.2.1⟩, O0.2.2.2.2.2.2.2.2.2.2.2.2.2.2.2.2.2.2.2.2.2.2.2.2.2.2.2.2.2.2.2.2.2.2.2.2.2.2.2.2.2.2.2.2.2.2.2.2.1, O0.2.2.2.2.2.2.2.2.2.2.2.2.2.2.2.2.2.2.2.2.2.2.2.2.2.2.2.2.2.2.2.2.2.2.2.2.2.2.2.2.2.2.2.2.2.2.2.2.2.1, O0.2.2.2.2.2.2.2.2.2.2.2.2.2.2.2.2.2.2.2.2.2.2.2.2.2.2.2.2.2.2.2.2.2.2.2.2.2.2.2.2.2.2.2.2.2.2.2.2.2.2⟩)
end Go.Ve.X
