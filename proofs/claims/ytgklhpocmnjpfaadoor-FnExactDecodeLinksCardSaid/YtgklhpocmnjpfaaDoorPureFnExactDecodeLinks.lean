/- What 'FnExactDecodeLinks' comes to, in plain words over numbers, texts and lists: each function that it reaches answers what is told; put together, the law answers true. No condition but the sizes that come in. -/
import Derived.Test.YtgklhpocmnjpfaaDoorEqFnExactDecodeLinks
namespace Go.Ve.X
open Go.Ve
set_option linter.all false
set_option maxRecDepth 100000
theorem szStringS_some (a : List ByteArray) (left : Int) (hs : smL (fun x => x.size ≤ 140737488355328) a) (h0 : 0 ≤ left) (h1 : left ≤ 1048576) : laws_szStringS a left = some (if ((bulkL ByteArray.size a : Nat) : Int) ≤ left then left - ((bulkL ByteArray.size a : Nat) : Int) else -1) := by
  have hl := hs.1
  have key := fun (h0 : 0 ≤ left - (a.length : Int)) => sz_loop a ByteArray.size (fun left i => laws_szStringS_l5 a left i) (fun left => by rw [laws_szStringS_l5_eq, sif_f (by omega)]) (fun i x left hx hi h0 h1 => by
    have hx' : x.size ≤ 140737488355328 := hs.2 x (mem_of_at hx)
    rw [laws_szStringS_l5_eq, sif_t (by omega), idx_some hx, sbind_some, wi64_id (by omega) (by omega), wi64_add1 (by omega)]
    by_cases c : (x.size : Int) ≤ left
    · rw [if_pos c, sif_f (by omega)]
    · rw [if_neg c, sif_t (by omega)]) (left - (a.length : Int)) h0 (by omega)
  rw [laws_szStringS_eq, wi64_id (by omega) (by omega)]
  by_cases c : (a.length : Int) ≤ left
  · rw [sif_f (by omega), key (by omega)]
    unfold bulkL
    by_cases c2 : (((a.map ByteArray.size).sum : Nat) : Int) ≤ left - a.length
    · rw [if_pos c2, if_pos (by omega)]; congr 1; omega
    · rw [if_neg c2, if_neg (by omega)]
  · rw [sif_t (by omega), if_neg (by have := bulk_len ByteArray.size a; omega)]
def bulk_NameHeap (x : List ByteArray) : Nat := (bulkL ByteArray.size x)
def sm_NameHeap (x : List ByteArray) : Prop := smL (fun x => x.size ≤ 140737488355328) x
theorem szNameHeap_some (x : List ByteArray) (left : Int) (hs : sm_NameHeap x) (h0 : 0 ≤ left) (h1 : left ≤ 1048576) : laws_szNameHeap x left = some (if ((bulk_NameHeap x : Nat) : Int) ≤ left then left - ((bulk_NameHeap x : Nat) : Int) else -1) := by
  have hb : ((bulk_NameHeap x : Nat) : Int) = ((bulkL ByteArray.size x : Nat) : Int) := by unfold bulk_NameHeap; omega
  unfold sm_NameHeap at hs
  have s0 := hs
  rw [laws_szNameHeap_eq]
  rw [szStringS_some x (left) s0 (by omega) (by omega), sbind_some]
  by_cases c0 : ((bulkL ByteArray.size x : Nat) : Int) ≤ left
  · rw [if_pos c0, sif_f (by omega)]
    rw [if_pos (by omega)]; exact congrArg some (by omega)
  · rw [if_neg c0, sif_t (by omega), if_neg (by omega)]
theorem toStringS_some (a : List ByteArray) (hb : bulkL ByteArray.size a ≤ 1048576) : laws_toStringS a = some a := by
  have hl : a.length ≤ 1048576 := Nat.le_trans (bulk_len ByteArray.size a) hb
  have key := loop_fill a id (fun i out => laws_toStringS_l3 a i out) id (fun out ho => by rw [laws_toStringS_l3_eq, sif_f (by omega)]; rfl) (fun i x out hx hi ho => by
    rw [laws_toStringS_l3_eq, sif_t (by omega), idx_some hx, sbind_some, sif_pos (lt3_ok (by omega) (by omega)), wi64_add1 (by omega)]
    rfl) (List.replicate a.length (bs [])) (by simp)
  rw [laws_toStringS_eq, sif_pos (by rw [le3_ok (by omega) (by omega), room_ok (by omega)]; rfl)]
  simpa using key
theorem toNameHeap_some (x : List ByteArray) (hb : bulk_NameHeap x ≤ 1048576) : laws_toNameHeap x = some x := by
  unfold bulk_NameHeap at hb
  rw [laws_toNameHeap_eq, toStringS_some x (by omega), sbind_some]
def bulk_Link (x : ByteArray × Int × ByteArray) : Nat := x.1.size + x.2.2.size
theorem eqLink_refl (x : ByteArray × Int × ByteArray) (hb : bulk_Link x ≤ 1048576) : laws_eqLink x.1 x.2.1 x.2.2 x.1 x.2.1 x.2.2 = some true := by
  unfold bulk_Link at hb
  rw [laws_eqLink_eq]
  simp only [seq_self, bne_self_eq_false, beq_self_eq_true, Bool.not_true, Bool.not_false, sif_false, sif_true]
theorem eqLinkS_refl (a : List (ByteArray × Int × ByteArray)) (hb : bulkL bulk_Link a ≤ 1048576) : laws_eqLinkS a a = some true := by
  have hl : a.length ≤ 1048576 := Nat.le_trans (bulk_len bulk_Link a) hb
  have key := loop_all a (fun i => laws_eqLinkS_l4 a a (i : Int)) (some true) (by rw [laws_eqLinkS_l4_eq, sif_f (by omega)]) (fun i x hx hi => by
    rw [laws_eqLinkS_l4_eq, sif_t (by omega), idx_some hx, sbind_some, sbind_some, eqLink_refl x (Nat.le_trans (bulk_mem (mem_of_at hx)) hb), sbind_some, Bool.not_true, sif_false, wi64_add1 (by omega)])
  rw [laws_eqLinkS_eq, bne_self_eq_false, sif_false]
  exact key
theorem eqStringS_refl (a : List ByteArray) (hb : bulkL ByteArray.size a ≤ 1048576) : laws_eqStringS a a = some true := by
  have hl : a.length ≤ 1048576 := Nat.le_trans (bulk_len ByteArray.size a) hb
  have key := loop_all a (fun i => laws_eqStringS_l4 a a (i : Int)) (some true) (by rw [laws_eqStringS_l4_eq, sif_f (by omega)]) (fun i x hx hi => by
    rw [laws_eqStringS_l4_eq, sif_t (by omega), idx_some hx, sbind_some, sbind_some, seq_self, Bool.not_true, sif_false, wi64_add1 (by omega)])
  rw [laws_eqStringS_eq, bne_self_eq_false, sif_false]
  exact key
theorem eqNameHeap_refl (x : List ByteArray) (hb : bulk_NameHeap x ≤ 1048576) : laws_eqNameHeap x x = some true := by
  unfold bulk_NameHeap at hb
  rw [laws_eqNameHeap_eq, eqStringS_refl x (by omega), sbind_some]
  simp only [seq_self, bne_self_eq_false, beq_self_eq_true, Bool.not_true, Bool.not_false, sif_false, sif_true]
theorem markText_loop : ∀ (n : Nat) (k : Int) (out : ByteArray), k.toNat ≤ n → 0 ≤ k → k ≤ 9000000000000000000 → out.size + n ≤ 9000000000000000000 → ∃ r, laws_markText_l4 k out = some r := by
  intro n
  induction n with
  | zero =>
    intro k out h1 h2 h3 h4
    rw [laws_markText_l4_eq, sif_f (by omega), sif_pos (joins_ok (by rw [bs_size]; simp; omega))]
    exact ⟨_, rfl⟩
  | succ n ih =>
    intro k out h1 h2 h3 h4
    rw [laws_markText_l4_eq]
    by_cases c : k > 0
    · rw [sif_t c, sif_pos (joins_ok (by rw [toB_size]; simp; omega)), Int.tdiv_eq_ediv_of_nonneg h2, wi64_id (n := k / 10) (by omega) (by omega)]
      exact ih _ _ (by omega) (by omega) (by omega) (by rw [ByteArray.size_append, toB_size]; simp; omega)
    · rw [sif_f c, sif_pos (joins_ok (by rw [bs_size]; simp; omega))]
      exact ⟨_, rfl⟩
noncomputable def mt (k : Int) : ByteArray := (laws_markText k).getD (bs [])
theorem mt_some {k : Int} (h0 : 0 ≤ k) (h1 : k ≤ 4000000000000000000) : laws_markText k = some (mt k) := by
  have : ∃ r, laws_markText k = some r := by
    rw [laws_markText_eq]
    by_cases c : k ≤ 0
    · rw [sif_t c]; exact ⟨_, rfl⟩
    · rw [sif_f c]; exact markText_loop k.toNat k _ (Nat.le_refl _) (by omega) (by omega) (by rw [bs_size]; simp; omega)
  obtain ⟨r, hr⟩ := this
  unfold mt
  rw [hr]; rfl
noncomputable def mkd_LinkS (k : Int) (x : ByteArray × Int × ByteArray) : ByteArray × Int × ByteArray := (mt (k), k + 1, mt (k + 1 + 1))
theorem markLinkS_some (a : List (ByteArray × Int × ByteArray)) (k : Int) (h0 : 0 ≤ k) (hB : k + cntL (fun _ => 3) a ≤ 1000000000000) (hl : a.length ≤ 1000000000000) : laws_markLinkS_v k a = some (k + cntL (fun _ => 3) a, mkdL mkd_LinkS (fun _ => 3) k a) := by
  rw [laws_markLinkS_v_eq]
  refine mark_loop a mkd_LinkS (fun _ => 3) 1000000000000 (fun k i a => laws_markLinkS_v_l2 k i a) (fun k a => by rw [laws_markLinkS_v_l2_eq, sif_f (by omega)]) (P := fun _ => True) (fun k i l x hx hi ha _ h0 hk => ?_) (fun _ _ => trivial) k h0 hB
  have hk' : k + 3 ≤ 1000000000000 := hk
  rw [← ha] at hl
  have ek : k + ((3 : Nat) : Int) = k + 1 + 1 + 1 := by omega
  have ei := wi64_add1 (n := i) (by omega)
  have lt : lt3 0 (i : Int) (l.length : Int) = true := lt3_ok (by omega) (by omega)
  have e1 : wi64 (k + 1) = k + 1 := wi64_id (by omega) (by omega)
  have e2 : wi64 (k + 1 + 1) = k + 1 + 1 := wi64_id (by omega) (by omega)
  have e3 : wi64 (k + 1 + 1 + 1) = k + 1 + 1 + 1 := wi64_id (by omega) (by omega)
  have t0 := mt_some (k := k) (by omega) (by omega)
  have t2 := mt_some (k := k + 1 + 1) (by omega) (by omega)
  rw [ek, laws_markLinkS_v_l2_eq, sif_t (by omega)]
  simp only [Int.toNat_natCast, List.length_set, lt, sif_true, hx, sbind_some, List.getElem?_set_self hi, List.set_set, e1, e2, e3, ei, t0, t2]
  rfl
theorem heldLinkS_some (a : List (ByteArray × Int × ByteArray)) (k : Int) (h0 : 0 ≤ k) (hB : k + cntL (fun _ => 3) a ≤ 1000000000000) (hl : a.length ≤ 1000000000000) : laws_heldLinkS (mkdL mkd_LinkS (fun _ => 3) k a) k = some (k + cntL (fun _ => 3) a) := by
  have hlen := mkdL_len (mkd := mkd_LinkS) (cnt := fun _ => 3) a k
  rw [laws_heldLinkS_eq]
  refine held_loop mkd_LinkS (fun _ => 3) 1000000000000 _ (fun k' i => laws_heldLinkS_l2 (mkdL mkd_LinkS (fun _ => 3) k a) k' i) (fun k' => by rw [laws_heldLinkS_l2_eq, sif_f (by omega)]) (P := fun _ => True) (fun k i x hx hi _ h0 hk => ?_) a (fun _ _ => trivial) k h0 hB rfl
  have hk' : k + 3 ≤ 1000000000000 := hk
  have ek : k + ((3 : Nat) : Int) = k + 1 + 1 + 1 := by omega
  have ei := wi64_add1 (n := i) (by omega)
  have e1 : wi64 (k + 1) = k + 1 := wi64_id (by omega) (by omega)
  have e2 : wi64 (k + 1 + 1) = k + 1 + 1 := wi64_id (by omega) (by omega)
  have e3 : wi64 (k + 1 + 1 + 1) = k + 1 + 1 + 1 := wi64_id (by omega) (by omega)
  have t0 := mt_some (k := k) (by omega) (by omega)
  have t2 := mt_some (k := k + 1 + 1) (by omega) (by omega)
  rw [ek, laws_heldLinkS_l2_eq, sif_t (by omega), idx_some hx]
  simp only [sbind_some, mkd_LinkS, bne_self_eq_false, beq_self_eq_true, seq_self, Bool.not_true, sif_false, e1, e2, e3, ei, t0, t2]
/-! bytesL -/
theorem bidx_ofB (s : ByteArray) (i : Int) : bidx s i = idx (Ve.ofB s) i := by
  unfold bidx idx
  split
  · unfold Ve.ofB
    rw [List.getElem?_map]
    congr 1
    rw [Array.getElem?_toList, getElem?_def, getElem?_def]
    rfl
  · rfl
def inB (l : List Int) : Prop := ∀ x ∈ l, 0 ≤ x ∧ x ≤ 255
theorem ofB_inB (s : ByteArray) : inB (Ve.ofB s) := by
  intro x hx
  unfold Ve.ofB at hx
  obtain ⟨b, _, rfl⟩ := List.mem_map.1 hx
  have := b.toNat_lt
  omega
theorem toB_ofB (s : ByteArray) : Ve.toB (Ve.ofB s) = s := by
  unfold Ve.toB Ve.ofB
  rw [List.map_map]
  have : ((fun n : Int => UInt8.ofNat n.toNat) ∘ fun b : UInt8 => (b.toNat : Int)) = id := by funext b; simp
  rw [this, List.map_id]
theorem ofB_toB {l : List Int} (h : inB l) : Ve.ofB (Ve.toB l) = l := by
  unfold Ve.toB Ve.ofB
  simp only [List.map_map]
  conv => rhs; rw [← List.map_id l]
  refine List.map_congr_left (fun x hx => ?_)
  have := h x hx
  simp only [Function.comp, id]
  rw [UInt8.toNat_ofNat']
  omega
theorem bits_and_u64 (a : Int) : 0 ≤ bits .and .u64 a 255 ∧ bits .and .u64 a 255 ≤ 255 := by
  have h : ∀ x : BitVec 64, (x &&& 255#64).toNat ≤ 255 := fun x => by rw [BitVec.toNat_and]; exact Nat.and_le_right
  have := h (BitVec.ofInt 64 a)
  have e : bits .and .u64 a 255 = wu64 (((BitVec.ofInt 64 a) &&& 255#64).toNat : Int) := rfl
  rw [e, wu64_id (by omega) (by omega)]
  omega
/-! nmL -/
/-! names -/
def letr (c : Int) : Bool := (decide (65 ≤ c) && decide (c ≤ 90)) || (decide (97 ≤ c) && decide (c ≤ 122))
def nmC (c : Int) : Bool := letr c || (decide (48 ≤ c) && decide (c ≤ 57)) || (c == 95)
def nmAt (s : ByteArray) (i : Nat) : Bool := if i = 0 then letr ((Ve.ofB s).getD i 0) else nmC ((Ve.ofB s).getD i 0)
def isNm (s : ByteArray) : Bool := (decide (1 ≤ s.size) && decide (s.size ≤ 12)) && (List.range s.size).all (nmAt s)
theorem bidx_D {s : ByteArray} {i : Nat} (h : i < s.size) : bidx s (i : Int) = some ((Ve.ofB s).getD i 0) := by
  rw [bidx_ofB, idx_nat, List.getD_eq_getElem?_getD, List.getElem?_eq_getElem (by rw [ofB_len]; exact h)]; rfl
theorem spec_letter_some (c : Int) : spec_l01Letter c = some (letr c) := by
  rw [spec_l01Letter_eq]
  unfold letr
  by_cases a : 65 ≤ c <;> by_cases b : c ≤ 90 <;> by_cases d : 97 ≤ c <;> by_cases e : c ≤ 122 <;> simp [a, b, d, e, sif] <;> omega
theorem spec_IsName_some (s : ByteArray) : spec_IsName s = some (isNm s) := by
  rw [spec_IsName_eq]
  unfold isNm
  by_cases h0 : s.size = 0
  · rw [show (((s.size : Int) == 0)) = true by rw [beq_iff_eq]; omega, sif_true, decide_eq_false (show ¬ 1 ≤ s.size by omega)]; rfl
  · rw [show (((s.size : Int) == 0)) = false by rw [beq_eq_false_iff_ne]; omega, sif_false, decide_eq_true (show 1 ≤ s.size by omega)]
    by_cases h1 : (s.size : Int) > 12
    · rw [sif_t h1, decide_eq_false (show ¬ s.size ≤ 12 by omega)]; rfl
    · rw [sif_f h1, decide_eq_true (show s.size ≤ 12 by omega)]
      have k := all_loop (List.range s.size) (nmAt s) (fun i => match i with | 0 => sif (letr ((Ve.ofB s).getD 0 0)) (spec_IsName_l4 s 1) (some false) | i + 1 => spec_IsName_l4 s ((i + 1 : Nat) : Int)) false (fun i x hx hi => by
        rw [List.length_range] at hi
        rw [List.getElem?_range hi, Option.some.injEq] at hx
        subst hx
        unfold nmAt
        match i, hi with
        | 0, _ => rfl
        | i + 1, hi =>
          show spec_IsName_l4 s ((i + 1 : Nat) : Int) = sif (if i + 1 = 0 then _ else _) (spec_IsName_l4 s ((i + 1 + 1 : Nat) : Int)) _
          rw [if_neg (by omega), spec_IsName_l4_eq, sif_t (by omega), bidx_D hi, sbind_some, spec_letter_some, sbind_some, sbind_some, sbind_some, wi64_add1 (by omega)]
          unfold nmC
          generalize (Ve.ofB s).getD (i + 1) 0 = c
          cases letr c
          · simp only [bne, ge_iff_le, sbind_some]
            generalize (c == 95) = q, decide (48 ≤ c) = x1, decide (c ≤ 57) = x2
            cases q <;> cases x1 <;> cases x2 <;> rfl
          · rfl)
      have e0 : (match (0 : Nat) with | 0 => sif (letr ((Ve.ofB s).getD 0 0)) (spec_IsName_l4 s 1) (some false) | i + 1 => spec_IsName_l4 s ((i + 1 : Nat) : Int)) = sif (letr ((Ve.ofB s).getD 0 0)) (spec_IsName_l4 s 1) (some false) := rfl
      rw [show (0 : Int) = ((0 : Nat) : Int) from rfl, bidx_D (by omega), sbind_some, spec_letter_some, sbind_some, sif_not]
      refine k.trans ?_
      rw [List.length_range]
      have hn : s.size = (s.size - 1) + 1 := by omega
      rw [hn]
      show sif _ (spec_IsName_l4 s ((s.size - 1 + 1 : Nat) : Int)) _ = _
      rw [← hn, spec_IsName_l4_eq, sif_f (by omega), sif_some]
      cases (List.range s.size).all (nmAt s) <;> rfl
theorem impl_IsName_some (s : ByteArray) (h : s.size ≤ 140737488351232) : impl_IsName s = some (isNm s) := by
  rw [impl_IsName_eq]
  have k := all_loop (List.range s.size) (nmAt s) (fun i => impl_IsName_l2 s (s.size : Int) (i : Int)) false (fun i x hx hi => by
    rw [List.length_range] at hi
    rw [List.getElem?_range hi, Option.some.injEq] at hx
    subst hx
    show impl_IsName_l2 s (s.size : Int) (i : Int) = _
    rw [impl_IsName_l2_eq, sif_t (by omega), bidx_D hi, sbind_some]
    unfold nmAt nmC letr
    generalize (Ve.ofB s).getD i 0 = c
    simp only [impl_IsName_l6_eq, wi64_add1 (show i < 9223372036854775807 by omega)]
    by_cases hz : i = 0
    · subst hz
      by_cases a : 65 ≤ c <;> by_cases b : c ≤ 90 <;> by_cases d : 97 ≤ c <;> by_cases e : c ≤ 122 <;> simp [a, b, d, e, sif] <;> omega
    · have hz' : ((i : Int) == 0) = false := by rw [beq_eq_false_iff_ne]; omega
      rw [if_neg hz]
      simp only [hz', sif_false, bne]
      rw [show decide (48 ≤ c) = !decide (c < 48) by rw [← decide_not, decide_eq_decide]; omega, show decide (c ≤ 57) = !decide (c > 57) by rw [← decide_not, decide_eq_decide]; omega]
      by_cases f : c < 48 <;> by_cases g : c > 57 <;> by_cases a : 65 ≤ c <;> by_cases b : c ≤ 90 <;> by_cases d : 97 ≤ c <;> by_cases e : c ≤ 122 <;> (first | (exfalso; omega) | (generalize (c == 95) = q; cases q <;> simp [a, b, d, e, f, g, sif])))
  refine k.trans ?_
  show sif _ (impl_IsName_l2 s (s.size : Int) ((List.range s.size).length : Nat)) _ = _
  rw [List.length_range, impl_IsName_l2_eq, sif_f (by omega), sif_bool]
  unfold isNm
  rw [sif_bool, Bool.and_comm]
  congr 2
  rw [show decide ((s.size : Int) ≥ 1) = decide (1 ≤ s.size) by rw [decide_eq_decide]; omega, show decide ((s.size : Int) ≤ 12) = decide (s.size ≤ 12) by rw [decide_eq_decide]; omega]
/-! different names -/
/-! kbL -/
theorem kbeq {a b : Int} (h : a = b) : (a == b) = true := by rw [beq_iff_eq]; exact h
theorem kbne {a b : Int} (h : a ≠ b) : (a == b) = false := by rw [beq_eq_false_iff_ne]; exact h
/-! leL -/
def leN : List Int → Int
  | [] => 0
  | b :: r => b + 256 * leN r
theorem leN_ge : ∀ {l : List Int}, inB l → 0 ≤ leN l
  | [], _ => by simp [leN]
  | b :: r, h => by
    have := leN_ge (l := r) (fun x hx => h x (by simp [hx])); have := h b (by simp); simp only [leN]; omega
theorem leN_lt : ∀ {l : List Int}, inB l → leN l < 256 ^ l.length
  | [], _ => by simp [leN]
  | b :: r, h => by
    have := leN_lt (l := r) (fun x hx => h x (by simp [hx])); have := h b (by simp)
    simp only [leN, List.length_cons, Int.pow_succ]; omega
theorem leN_append : ∀ (a b : List Int), leN (a ++ b) = leN a + 256 ^ a.length * leN b
  | [], b => by simp [leN]
  | x :: a, b => by
    simp only [List.cons_append, leN, leN_append a b, List.length_cons, Int.pow_succ]
    rw [Int.mul_add, Int.mul_comm (256 ^ a.length) 256, Int.mul_assoc]; omega
theorem inB_take {l : List Int} (h : inB l) (n : Nat) : inB (l.take n) := fun x hx => h x (List.mem_of_mem_take hx)
theorem inB_drop {l : List Int} (h : inB l) (n : Nat) : inB (l.drop n) := fun x hx => h x (List.mem_of_mem_drop hx)
theorem leN_drop {l : List Int} (h : inB l) : ∀ n, leN (l.drop n) ≤ leN l := by
  induction l with
  | nil => intro n; simp
  | cons b r ih =>
    intro n
    cases n with
    | zero => simp
    | succ n =>
      have h1 := ih (fun x hx => h x (by simp [hx])) n
      have h2 := leN_ge (l := r) (fun x hx => h x (by simp [hx]))
      have h3 := h b (by simp)
      simp only [List.drop_succ_cons, leN]; omega
def leB (n : Int) (k : Nat) : List Int := (List.range k).map (fun i => wu8 (Int.fdiv n (2 ^ (8 * i))))
theorem leB_len (n : Int) (k : Nat) : (leB n k).length = k := by simp [leB]
theorem leB_in (n : Int) (k : Nat) : inB (leB n k) := by
  intro x hx
  obtain ⟨i, _, rfl⟩ := List.mem_map.1 hx
  rw [wu8_def]; omega
theorem fdiv_shift (n : Int) (i : Nat) : Int.fdiv n (2 ^ (8 * (i + 1))) = Int.fdiv (Int.fdiv n 256) (2 ^ (8 * i)) := by
  rw [Int.fdiv_eq_ediv_of_nonneg _ (Int.pow_nonneg (by decide)), Int.fdiv_eq_ediv_of_nonneg _ (Int.pow_nonneg (by decide)), Int.fdiv_eq_ediv_of_nonneg _ (by decide)]
  rw [Int.ediv_ediv_of_nonneg (by decide)]
  congr 1
  rw [Nat.mul_add, Int.pow_add, Int.mul_comm]; rfl
theorem leB_succ (n : Int) (k : Nat) : leB n (k + 1) = wu8 n :: leB (Int.fdiv n 256) k := by
  unfold leB
  rw [List.range_succ_eq_map, List.map_cons, List.map_map]
  congr 1
  · simp [Int.fdiv_one]
  · refine List.map_congr_left (fun i _ => ?_)
    simp only [Function.comp]
    rw [Nat.succ_eq_add_one, fdiv_shift]
theorem leN_leB : ∀ (k : Nat) (n : Int), 0 ≤ n → n < 256 ^ k → leN (leB n k) = n
  | 0, n, h0, h1 => by simp at h1; simp [leB, leN]; omega
  | k + 1, n, h0, h1 => by
    rw [Int.pow_succ] at h1
    rw [leB_succ, leN, Int.fdiv_eq_ediv_of_nonneg _ (by decide), leN_leB k (n / 256) (by omega) (by omega), wu8_def]
    omega
theorem or_add {x b k : Nat} (h : x < 2 ^ k) : x ||| (b * 2 ^ k) = x + b * 2 ^ k := by
  have := Nat.shiftLeft_add_eq_or_of_lt h b
  rw [Nat.shiftLeft_eq] at this
  rw [Nat.or_comm, ← this, Nat.add_comm]
theorem bits_or_nat {x y : Nat} (hx : x < 18446744073709551616) (hy : y < 18446744073709551616) : bits .or .u64 (x : Int) (y : Int) = ((x ||| y : Nat) : Int) := by
  have e : bits .or .u64 (x : Int) (y : Int) = wu64 (((BitVec.ofInt 64 (x : Int)) ||| (BitVec.ofInt 64 (y : Int))).toNat : Int) := rfl
  have hxy : x ||| y < 2 ^ 64 := Nat.or_lt_two_pow hx hy
  rw [e, BitVec.toNat_or, BitVec.ofInt_natCast, BitVec.ofInt_natCast, BitVec.toNat_ofNat, BitVec.toNat_ofNat, Nat.mod_eq_of_lt hx, Nat.mod_eq_of_lt hy, wu64_id (by omega) (by omega)]
theorem or_step {n b : Int} {i : Nat} (hi : i ≤ 7) (h0 : 0 ≤ n) (h1 : n < 256 ^ i) (b0 : 0 ≤ b) (b1 : b ≤ 255) : bits .or .u64 n (wu64 ((wu64 b) * 2 ^ (min (wi64 (8 * (i : Int))).toNat 64))) = n + 256 ^ i * b := by
  rw [wi64_id (by omega) (by omega), wu64_id (n := b) (by omega) (by omega)]
  have hm : min (8 * (i : Int)).toNat 64 = 8 * i := by omega
  rw [hm]
  have hp : (256 : Int) ^ i = 2 ^ (8 * i) := by rw [Int.pow_mul]; rfl
  have hpn : ((2 ^ (8 * i) : Nat) : Int) = 2 ^ (8 * i) := by push_cast; rfl
  have hle : (2 : Nat) ^ (8 * i) ≤ 2 ^ 56 := Nat.pow_le_pow_right (by decide) (by omega)
  obtain ⟨bn, rfl⟩ : ∃ bn : Nat, b = bn := ⟨b.toNat, by omega⟩
  obtain ⟨nn, rfl⟩ : ∃ nn : Nat, n = nn := ⟨n.toNat, by omega⟩
  rw [hp, ← hpn] at h1
  have hmul : bn * 2 ^ (8 * i) ≤ 255 * 2 ^ 56 := Nat.mul_le_mul (by omega) hle
  rw [hp, ← hpn, ← Int.natCast_mul, wu64_id (by omega) (by omega), bits_or_nat (by omega) (by omega), or_add (by omega)]
  push_cast
  rw [Int.mul_comm]
theorem wu8_and (m : Int) : wu8 (bits .and .i64 m 255) = wu8 m := by
  have e : bits .and .i64 m 255 = wi64 (((BitVec.ofInt 64 m) &&& 255#64).toNat : Int) := rfl
  have h : ∀ x : BitVec 64, (x &&& 255#64).toNat = x.toNat % 256 := fun x => by
    rw [BitVec.toNat_and]; exact Nat.and_two_pow_sub_one_eq_mod x.toNat 8
  rw [e, h, BitVec.toNat_ofInt, wi64_id (by omega) (by omega), wu8_def, wu8_def]
  omega
theorem toB_append (a b : List Int) : toB a ++ toB b = toB (a ++ b) := by
  unfold toB
  apply ByteArray.ext
  simp
theorem joinsT {a b : List Int} (h : a.length + b.length ≤ 4611686018427387904) : joins (toB a) (toB b) = true := joins_ok (by rw [toB_size, toB_size]; omega)
theorem extract_toB (l : List Int) (i j : Nat) : (toB l).extract i j = toB ((l.take j).drop i) := by
  unfold toB
  apply ByteArray.ext
  simp [ByteArray.data_extract, List.map_take, List.map_drop, List.drop_take]
theorem bidx_toB {l : List Int} (h : inB l) {i : Int} (h0 : 0 ≤ i) : bidx (toB l) i = l[i.toNat]? := by rw [bidx_ofB, ofB_toB h, idx_int h0]
theorem toB_inj {a b : List Int} (ha : inB a) (hb : inB b) (h : toB a = toB b) : a = b := by rw [← ofB_toB ha, h, ofB_toB hb]
theorem seq_toB {a b : List Int} (ha : inB a) (hb : inB b) : seq (toB a) (toB b) = decide (a = b) := by
  rw [seq_eq, Bool.eq_iff_iff]
  simp only [decide_eq_true_eq]
  exact ⟨toB_inj ha hb, fun h => by rw [h]⟩
/-! pathL -/
/-! paths -/
def ix : List Int → Option Nat
  | [] => none
  | x :: r => if x = 47 then some 0 else (ix r).map (· + 1)
theorem ix_none : ∀ {t : List Int}, ix t = none → ∀ x ∈ t, x ≠ 47
  | [], _, x, hx => by cases hx
  | y :: r, h, x, hx => by
    rw [ix] at h
    by_cases hy : y = 47
    · rw [if_pos hy] at h; cases h
    · rw [if_neg hy, Option.map_eq_none_iff] at h
      rcases List.mem_cons.1 hx with rfl | hx
      · exact hy
      · exact ix_none h x hx
theorem ix_some : ∀ {t : List Int} {o : Nat}, ix t = some o → t[o]? = some 47 ∧ ∀ (j : Nat) x, j < o → t[j]? = some x → x ≠ 47
  | [], _, h => by cases h
  | y :: r, o, h => by
    rw [ix] at h
    by_cases hy : y = 47
    · rw [if_pos hy] at h; cases h; exact ⟨by rw [hy]; rfl, fun j x hj => absurd hj (Nat.not_lt_zero _)⟩
    · rw [if_neg hy, Option.map_eq_some_iff] at h
      obtain ⟨o', h1, rfl⟩ := h
      obtain ⟨h2, h3⟩ := ix_some h1
      refine ⟨by simpa using h2, fun j x hj hx => ?_⟩
      cases j with
      | zero => simp only [List.getElem?_cons_zero, Option.some.injEq] at hx; rw [← hx]; exact hy
      | succ j => exact h3 j x (by omega) (by simpa using hx)
def segI : Nat → List Int → List (List Int)
  | 0, t => [t]
  | n + 1, t => match ix t with
    | none => [t]
    | some o => t.take o :: segI n (t.drop (o + 1))
def nmI (w : List Int) : Bool := isNm (toB w)
def finP (out : List ByteArray) (ws : List (List Int)) : Bool × List ByteArray := if ws.all nmI = true then (if out.length + ws.length > 6 then (false, []) else (true, out ++ ws.map toB)) else (false, [])
theorem ext_tk (l : List Int) (a b : Nat) : (toB l).extract a b = toB ((l.drop a).take (b - a)) := by rw [extract_toB, List.drop_take]
theorem spec_split_skip (l : List Int) (hl : inB l) (hn : l.length ≤ 1048576) (f : Nat) (out : List ByteArray) : ∀ (n i i0 : Nat), i0 = i + n → i0 ≤ l.length → (∀ j x, i ≤ j → j < i0 → l[j]? = some x → x ≠ 47) → spec_l17Split_l8 (toB l) (f : Int) (i : Int) out = spec_l17Split_l8 (toB l) (f : Int) (i0 : Int) out
  | 0, i, i0, h, _, _ => by rw [show i0 = i by omega]
  | n + 1, i, i0, h, h0, hx => by
    have hlt : i < l.length := by omega
    have hb : l[i]? = some l[i] := List.getElem?_eq_getElem hlt
    have h47 := hx i _ (Nat.le_refl _) (by omega) hb
    rw [spec_l17Split_l8_eq, toB_size, sif_t (by omega), sif_t (by omega), bidx_toB hl (by omega), Int.toNat_natCast, hb, sbind_some, sif_pos (by rw [bne_iff_ne]; exact h47), wi64_add1 (by omega)]
    exact spec_split_skip l hl hn f out n (i + 1) i0 (by omega) h0 (fun j x h1 h2 h3 => hx j x (by omega) h2 h3)
theorem spec_split_loop (l : List Int) (hl : inB l) (hn : l.length ≤ 1048576) : ∀ (n f : Nat) (out : List ByteArray), f ≤ l.length → l.length - f ≤ n → out.length ≤ f → spec_l17Split_l8 (toB l) (f : Int) (f : Int) out = some (finP out (segI n (l.drop f))) := by
  intro n
  induction n with
  | zero =>
    intro f out hf h0 ho
    obtain rfl : f = l.length := by omega
    rw [List.drop_length, spec_l17Split_l8_eq, toB_size, sif_t (by omega), sif_f (by omega), sif_pos (le3_ok (by omega) (by omega)), sif_pos (le3_ok (by omega) (by omega)), Int.toNat_natCast, ext_tk, Nat.sub_self, List.take_zero, spec_IsName_some, sbind_some, finP, segI]
    have hz : isNm (toB []) = false := rfl
    rw [hz, Bool.not_false, sif_true, if_neg (by show ¬ (nmI [] && true) = true; unfold nmI; rw [hz]; simp)]
  | succ n ih =>
    intro f out hf h0 ho
    cases hix : ix (l.drop f) with
    | none =>
      have hno := ix_none hix
      rw [spec_split_skip l hl hn f out (l.length - f) f l.length (by omega) (Nat.le_refl _) (fun j x h1 h2 h3 => hno x (List.mem_of_getElem? (i := j - f) (by rw [List.getElem?_drop, show f + (j - f) = j by omega]; exact h3)))]
      rw [spec_l17Split_l8_eq, toB_size, sif_t (by omega), sif_f (by omega), sif_pos (le3_ok (by omega) (by omega)), sif_pos (le3_ok (by omega) (by omega)), Int.toNat_natCast, Int.toNat_natCast, ext_tk, spec_IsName_some, sbind_some, show segI (n + 1) (l.drop f) = [l.drop f] by rw [segI, hix], List.take_of_length_le (by rw [List.length_drop]; exact Nat.le_refl _)]
      show sif (!nmI (l.drop f)) _ _ = some (if (nmI (l.drop f) && true) = true then (if out.length + 1 > 6 then (false, []) else (true, out ++ [toB (l.drop f)])) else (false, []))
      rw [Bool.and_true]
      cases hnm : nmI (l.drop f) with
      | false => rfl
      | true =>
        rw [Bool.not_true, sif_false, sif_pos (le3_ok (by omega) (by omega)), sif_pos (le3_ok (by omega) (by omega)), sif_pos (room_ok (by omega)), wi64_add1 (by omega), spec_l17Split_l8_eq, toB_size, sif_f (by omega), if_pos rfl, List.length_append, List.length_singleton]
        by_cases h6 : out.length + 1 > 6
        · rw [sif_t (by omega), if_pos h6]
        · rw [sif_f (by omega), if_neg h6]
    | some o =>
      obtain ⟨g1, g2⟩ := ix_some hix
      have ho1 : f + o < l.length := by
        have := (List.getElem?_eq_some_iff.1 g1).1
        rw [List.length_drop] at this; omega
      have g3 : l[f + o]? = some 47 := by rw [List.getElem?_drop] at g1; exact g1
      rw [spec_split_skip l hl hn f out o f (f + o) rfl (by omega) (fun j x h1 h2 h3 => g2 (j - f) x (by omega) (by rw [List.getElem?_drop, show f + (j - f) = j by omega]; exact h3))]
      have hnext := ih (f + o + 1) (out ++ [toB ((l.drop f).take o)]) (by omega) (by omega) (by rw [List.length_append, List.length_singleton]; omega)
      rw [spec_l17Split_l8_eq, toB_size, sif_t (by omega), sif_t (by omega), bidx_toB hl (by omega), Int.toNat_natCast, g3, sbind_some, sif_neg (by rfl), sif_pos (le3_ok (by omega) (by omega)), sif_pos (le3_ok (by omega) (by omega)), Int.toNat_natCast, ext_tk, show f + o - f = o by omega, spec_IsName_some, sbind_some, wi64_add1 (by omega), hnext]
      have hs : segI (n + 1) (l.drop f) = (l.drop f).take o :: segI n ((l.drop f).drop (o + 1)) := by rw [segI, hix]
      rw [hs, List.drop_drop, show f + (o + 1) = f + o + 1 by omega]
      unfold finP
      rw [List.all_cons]
      show sif (!nmI ((l.drop f).take o)) _ _ = _
      cases hnm : nmI ((l.drop f).take o) with
      | false => rfl
      | true =>
        rw [Bool.not_true, sif_false, sif_pos (le3_ok (by omega) (by omega)), sif_pos (le3_ok (by omega) (by omega)), sif_pos (room_ok (by omega)), Bool.true_and, List.length_append, List.length_singleton, List.length_cons, List.map_cons, List.append_assoc, show out.length + 1 + (segI n (l.drop (f + o + 1))).length = out.length + ((segI n (l.drop (f + o + 1))).length + 1) by omega]
        rfl
def pathM : List Int → Bool
  | [] => false
  | x :: r => if x = 47 then (if r = [] then true else ((segI r.length r).all nmI && decide ((segI r.length r).length ≤ 6))) else false
theorem finP_fst (ws : List (List Int)) : (finP [] ws).1 = (ws.all nmI && decide (ws.length ≤ 6)) := by
  unfold finP
  cases ws.all nmI with
  | false => rfl
  | true =>
    rw [if_pos rfl, Bool.true_and]
    by_cases h : ws.length ≤ 6
    · rw [if_neg (by simp; omega), decide_eq_true h]
    · rw [if_pos (by simp; omega), decide_eq_false h]
theorem seqL {a b : List Int} (ha : inB a) (hb : inB b) : seq (toB a) (toB b) = decide (a = b) := by
  rw [seq_eq]
  congr 1
  refine propext ⟨fun h => ?_, fun h => by rw [h]⟩
  have := congrArg ofB h
  rwa [ofB_toB ha, ofB_toB hb] at this
theorem spec_path_some (l : List Int) (hl : inB l) (hn : l.length ≤ 1048576) : spec_ValidPath (toB l) = some (pathM l) := by
  have i47 : inB [47] := by intro x hx; rw [List.mem_singleton] at hx; omega
  have i0 : inB [] := fun x hx => by cases hx
  rw [spec_ValidPath_eq, spec_l17Split_eq, show bs [47] = toB [47] from rfl, show bs [] = toB [] from rfl, seqL hl i47, seqL hl i0]
  cases l with
  | nil => rfl
  | cons x r =>
    have hb : bidx (toB (x :: r)) 0 = some x := by rw [bidx_toB hl (by decide)]; rfl
    rw [decide_eq_false (show ¬ (x :: r) = [] by simp), sif_false, hb, sbind_some]
    by_cases hx : x = 47
    · subst hx
      by_cases hr : r = []
      · subst hr; rfl
      · have h1 : decide ((47 :: r : List Int) = [47]) = false := decide_eq_false (by simp; exact hr)
        have k := spec_split_loop (47 :: r) hl hn r.length 1 [] (by simp) (by simp) (by simp)
        rw [h1, sif_false, show ((47 : Int) != 47) = false from rfl, sif_false, show spec_l17Split_l8 (toB (47 :: r)) 1 1 [] = _ from k, sbind_some, finP_fst, pathM, if_pos rfl, if_neg hr]; rfl
    · have h1 : decide ((x :: r) = [47]) = false := decide_eq_false (by intro h; exact hx (List.cons.inj h).1)
      rw [h1, sif_false, sif_pos (by rw [bne_iff_ne]; exact hx), sbind_some, pathM, if_neg hx]
theorem b47 {x : Int} (h : 0 ≤ x ∧ x ≤ 255) : ((UInt8.ofNat x.toNat : UInt8) == 47) = decide (x = 47) := by
  rw [Bool.eq_iff_iff, beq_iff_eq, decide_eq_true_eq]
  constructor
  · intro e
    have := congrArg UInt8.toNat e
    rw [UInt8.toNat_ofNat_of_lt' (by show x.toNat < 256; omega)] at this
    have h47 : (47 : UInt8).toNat = 47 := rfl
    omega
  · rintro rfl; rfl
theorem ixB_some (l : List Int) (hl : inB l) : Lib.indexByte (l.map fun n => UInt8.ofNat n.toNat) 47 = match ix l with | none => -1 | some o => (o : Int) := by
  induction l with
  | nil => rfl
  | cons x r ih =>
    have ih := ih (fun y hy => hl y (by simp [hy]))
    rw [List.map_cons, Lib.indexByte, b47 (hl x (by simp)), ih, ix]
    by_cases hx : x = 47
    · rw [decide_eq_true hx, if_pos rfl, if_pos hx]; rfl
    · rw [decide_eq_false hx, if_neg Bool.false_ne_true, if_neg hx]
      cases ix r with
      | none => rfl
      | some o =>
        show (if ((o : Int) == -1) = true then (-1 : Int) else (o : Int) + 1) = ((o + 1 : Nat) : Int)
        rw [if_neg (by rw [beq_iff_eq]; omega)]; rfl
theorem indexB47 (l : List Int) (hl : inB l) : Lib.indexB (toB l) (bs [47]) = match ix l with | none => -1 | some o => (o : Int) := by
  rw [Lib.one _ _ (by rfl)]
  have e : (toB l).data.toList = l.map fun n : Int => UInt8.ofNat n.toNat := by simp [toB]
  rw [e]
  exact ixB_some l hl
theorem split_segs : ∀ (n : Nat) (l : List Int), inB l → l.length ≤ n → Lib.splitB (bs [47]) 0 (Lib.countB (toB l) (bs [47])) (toB l) = (segI n l).map toB
  | 0, l, hl, hn => by
    obtain rfl : l = [] := List.length_eq_zero_iff.1 (by omega)
    rw [Lib.splitB_miss _ _ _ _ (by rw [indexB47 [] hl]; rfl)]; rfl
  | n + 1, l, hl, hn => by
    have hb := indexB47 l hl
    cases hix : ix l with
    | none =>
      rw [hix] at hb
      rw [Lib.splitB_miss _ _ _ _ hb, segI, hix]; rfl
    | some o =>
      rw [hix] at hb
      obtain ⟨g1, _⟩ := ix_some hix
      have ho := (List.getElem?_eq_some_iff.1 g1).1
      have ih := split_segs n (l.drop (o + 1)) (inB_drop hl _) (by rw [List.length_drop]; omega)
      have hsz : (bs [47]).size = 1 := rfl
      have he : (toB l).extract (o + (bs [47]).size) (toB l).size = toB (l.drop (o + 1)) := by
        rw [hsz, toB_size, ext_tk, List.take_of_length_le (by rw [List.length_drop]; exact Nat.le_refl _)]
      rw [Lib.countB_hit _ _ o (by rw [hsz]; exact Nat.le_refl _) hb, he, Nat.add_comm, Lib.splitB_hit _ _ _ _ o hb, he, ih, segI, hix, ext_tk]
      simp
theorem segI_len : ∀ (n : Nat) (l : List Int), (segI n l).length ≤ n + 1 ∧ ∀ w ∈ segI n l, w.length ≤ l.length
  | 0, l => ⟨by simp [segI], fun w hw => by simp [segI] at hw; rw [hw]; exact Nat.le_refl _⟩
  | n + 1, l => by
    rw [segI]
    cases ix l with
    | none => exact ⟨by simp, fun w hw => by simp at hw; rw [hw]; exact Nat.le_refl _⟩
    | some o =>
      obtain ⟨h1, h2⟩ := segI_len n (l.drop (o + 1))
      refine ⟨by simp; omega, fun w hw => ?_⟩
      rcases List.mem_cons.1 hw with rfl | hw
      · rw [List.length_take]; omega
      · have := h2 w hw; rw [List.length_drop] at this; omega
theorem impl_split_some (l : List Int) (hl : inB l) (hn : l.length ≤ 1048576) : strings_Split (toB l) (bs [47]) = some ((segI l.length l).map toB) := by
  rw [strings_Split_eq, splitI, if_pos ⟨by rw [toB_size]; omega, by decide⟩, split_segs l.length l hl (Nat.le_refl _)]
theorem impl_names_some (ws : List ByteArray) (hw : ws.length ≤ 1048577) (hs : ∀ w ∈ ws, w.size ≤ 1048576) : slices_ContainsFunc_sstring_string_d_splitPath_1 ws = some (!ws.all isNm) := by
  have k1 : slices_ContainsFunc_sstring_string_d_splitPath_1 ws = some (ws.any (fun n => !isNm n)) := by
    rw [slices_ContainsFunc_sstring_string_d_splitPath_1_eq, slices_IndexFunc_sstring_string_d_splitPath_1_eq]
    refine find_any (find_loop ws _ (fun i => slices_IndexFunc_sstring_string_d_splitPath_1_l2 ws (ws.length : Int) i) (by rw [slices_IndexFunc_sstring_string_d_splitPath_1_l2_eq, sif_f (by omega)]) (fun i x hx hi => ?_))
    rw [slices_IndexFunc_sstring_string_d_splitPath_1_l2_eq, sif_t (by omega), idx_some hx, sbind_some, impl_splitPath_1_eq, impl_IsName_some x (by have := hs x (mem_of_at hx); omega), sbind_some, sbind_some, wi64_add1 (by omega)]
  rw [k1, any_not_all ws isNm _ (fun _ _ => rfl)]
theorem cutPre47 (x : Int) (r : List Int) (hx : 0 ≤ x ∧ x ≤ 255) : cutPre (toB (x :: r)) (bs [47]) = if x = 47 then (toB r, true) else (toB (x :: r), false) := by
  have e : (toB (x :: r)).data.toList = UInt8.ofNat x.toNat :: r.map fun n : Int => UInt8.ofNat n.toNat := by simp [toB]
  have e2 : (bs [47]).data.toList = [47] := rfl
  have hp : Lib.hasPrefix (UInt8.ofNat x.toNat :: r.map fun n : Int => UInt8.ofNat n.toNat) [47] = decide (x = 47) := by
    rw [← b47 hx]
    unfold Lib.hasPrefix
    rw [List.isPrefixOf, List.isPrefixOf, Bool.and_true, Bool.beq_comm]
  unfold cutPre
  rw [e, e2, Lib.trimPrefix, hp]
  by_cases h : x = 47
  · rw [decide_eq_true h, if_pos rfl, if_pos h]
    simp [toB]
  · rw [decide_eq_false h, if_neg Bool.false_ne_true, if_neg h]
    congr 1
theorem impl_path_some (l : List Int) (hl : inB l) (hn : l.length ≤ 1048576) : impl_ValidPath (toB l) = some (pathM l) := by
  have i47 : inB [47] := by intro x hx; rw [List.mem_singleton] at hx; omega
  rw [impl_ValidPath_eq, impl_splitPath_eq, show seq (toB l) (bs [47]) = _ from seqL hl i47]
  cases l with
  | nil =>
    rw [decide_eq_false (by simp), sif_false, strings_CutPrefix_eq]
    have hc : cutPre (toB []) (bs [47]) = (toB [], false) := rfl
    rw [hc, sbind_some, impl_split_some [] hl (by simp), sbind_some]; rfl
  | cons x r =>
    have hx0 := hl x (by simp)
    have hr0 : inB r := fun y hy => hl y (by simp [hy])
    rw [strings_CutPrefix_eq, cutPre47 x r hx0, pathM]
    by_cases hx : x = 47
    · subst hx
      rw [if_pos rfl, if_pos rfl]
      by_cases hr : r = []
      · subst hr; rfl
      · have hrl : r.length ≤ 1048576 := by rw [List.length_cons] at hn; omega
        obtain ⟨s1, s2⟩ := segI_len r.length r
        rw [decide_eq_false (by simp; exact hr), sif_false, sbind_some, if_neg hr, impl_split_some r hr0 hrl, sbind_some, Bool.not_true, sif_false, List.length_map]
        by_cases h6 : (segI r.length r).length ≤ 6
        · rw [sif_f (by omega), impl_names_some _ (by rw [List.length_map]; omega) (fun w hw => by
            obtain ⟨v, hv, rfl⟩ := List.mem_map.1 hw
            have := s2 v hv
            rw [toB_size]; omega), sbind_some, List.all_map, decide_eq_true h6, Bool.and_true]
          show sbind (sif (!(segI r.length r).all nmI) _ _) _ = _
          cases (segI r.length r).all nmI <;> rfl
        · rw [sif_t (by omega), decide_eq_false h6, Bool.and_false]; rfl
    · rw [if_neg hx, if_neg hx, decide_eq_false (by intro h; exact hx (List.cons.inj h).1), sif_false, sbind_some, impl_split_some (x :: r) hl hn, sbind_some]; rfl
/-! vsL -/
theorem spec_l00In_inr (n lo hi : Int) : spec_l00In n lo hi = some (inr n lo hi) := by rw [spec_l00In_eq, inr_sif]
theorem impl_within_inr (n lo hi : Int) : impl_within n lo hi = some (inr n lo hi) := by rw [impl_within_eq, inr_sif]
def vS (b l q t : Int) : Bool := inr b 16 256 && (inr l 8 64 && (decide (l ≤ b - 4) && (inr q 0 1000000000000 && inr t 0 1000000000000)))
theorem vS_iff {b l q t : Int} : vS b l q t = true ↔ (16 ≤ b ∧ b ≤ 256) ∧ (8 ≤ l ∧ l ≤ 64) ∧ l ≤ b - 4 ∧ (0 ≤ q ∧ q ≤ 1000000000000) ∧ (0 ≤ t ∧ t ≤ 1000000000000) := by
  unfold vS
  simp only [Bool.and_eq_true, inr_iff, decide_eq_true_eq]
/-! bitsL -/
theorem impl_getBits_some (m : List Int) (hm : inB m) (h8 : m.length ≤ 8) : impl_getBits (toB m) = some (leN m) := by
  rw [impl_getBits_eq, toB_size]
  have := loop_to m.length (fun i n => impl_getBits_l3 (toB m) n (m.length : Int) (i : Int)) (fun _ _ => some (leN m)) (fun i n => n = leN (m.take i)) (fun n hn => by
      rw [impl_getBits_l3_eq, sif_f (by omega), hn, List.take_length])
    (fun i n hi hn ih => by
      have hb := hm _ (List.getElem_mem hi)
      have h0 := leN_ge (inB_take hm i)
      have h1 := leN_lt (inB_take hm i)
      rw [List.length_take, show min i m.length = i by omega] at h1
      rw [impl_getBits_l3_eq, sif_t (by omega), bidx_toB hm (by omega), Int.toNat_natCast, List.getElem?_eq_getElem hi, sbind_some, sif_f (by rw [wi64_id (by omega) (by omega)]; omega), or_step (by omega) (by omega) (by omega) hb.1 hb.2, wi64_add1 (by omega)]
      refine ih _ ?_
      rw [hn, List.take_succ_eq_append_getElem hi, leN_append, List.length_take, show min i m.length = i by omega]
      simp [leN]) 0 0 (by omega) rfl
  simpa using this
/-! putL -/
theorem leB_one (n : Int) : leB n 1 = [wu8 n] := by rw [leB_succ]; simp [leB]
/-! superL -/
def halfI (b l q t : Int) : List Int := [65, 82, 82, 83] ++ leB 1 1 ++ leB b 2 ++ leB l 2 ++ leB q 8 ++ leB t 8
def encI (b l q t : Int) : List Int := (halfI b l q t ++ List.replicate 7 0) ++ (halfI b l q t ++ List.replicate 7 0)
theorem halfI_len (b l q t : Int) : (halfI b l q t).length = 25 := by simp [halfI, leB_len]
theorem encI_len (b l q t : Int) : (encI b l q t).length = 64 := by simp [encI, halfI_len]
theorem inB_append {a b : List Int} (ha : inB a) (hb : inB b) : inB (a ++ b) := fun x hx => (List.mem_append.1 hx).elim (ha x) (hb x)
theorem halfI_in (b l q t : Int) : inB (halfI b l q t) := by
  unfold halfI
  refine inB_append (inB_append (inB_append (inB_append (inB_append ?_ (leB_in _ _)) (leB_in _ _)) (leB_in _ _)) (leB_in _ _)) (leB_in _ _)
  unfold inB; decide
theorem zeros_in (n : Nat) : inB (List.replicate n 0) := fun x hx => by rw [(List.mem_replicate.1 hx).2]; omega
theorem encI_in (b l q t : Int) : inB (encI b l q t) := inB_append (inB_append (halfI_in _ _ _ _) (zeros_in 7)) (inB_append (halfI_in _ _ _ _) (zeros_in 7))
theorem rep7 : repeatB (bs [0]) 7 = some (toB (List.replicate 7 0)) := by rfl
theorem bsA : bs [65, 82, 82, 83] = toB [65, 82, 82, 83] := rfl
/-! reading numbers -/
theorem impl_number_some (l : List Int) (hl : inB l) (k : Nat) (hk : k ≤ 8) (h : k ≤ l.length) (hn : l.length ≤ 1048576) (bad : Bool) : impl_decoder_number_w (k : Int) (toB l) bad = some (wi64 (leN (l.take k)), toB (l.drop k), bad) := by
  rw [impl_decoder_number_w_eq, impl_decoder_take_w_eq, impl_cut_eq, toB_size, sif_f (by omega), impl_within_inr, sbind_some, wi64_id (n := (l.length : Int) - k) (by omega) (by omega), show inr 0 0 ((l.length : Int) - k) = true by rw [inr_iff]; omega, Bool.not_true, sif_false, wi64_id (n := 0 + (k : Int)) (by omega) (by omega), sif_pos (le3_ok (by omega) (by omega)), sif_pos (le3_ok (by omega) (by omega)), sbind_some]
  dsimp only
  rw [Bool.not_true, sif_false, sif_pos (le3_ok (by omega) (by omega)), sbind_some]
  dsimp only
  have e1 : (0 + (k : Int)).toNat = k := by omega
  rw [e1, Int.toNat_natCast, extract_toB, extract_toB, List.take_length]
  have e2 : (0 : Int).toNat = 0 := rfl
  rw [e2, List.drop_zero, impl_getBits_some (l.take k) (inB_take hl k) (by rw [List.length_take]; omega), sbind_some]
theorem top_small {m : List Int} (hm : inB m) (h8 : m.length = 8) : (m[7]? : Option Int).getD 0 ≤ 127 → leN m ≤ 9223372036854775807 := by
  intro ht
  match m, h8 with
  | [a, b, c, d, e, f, g, h], _ =>
    have h0 := hm a (by simp); have h1 := hm b (by simp); have h2 := hm c (by simp); have h3 := hm d (by simp); have h4 := hm e (by simp); have h5 := hm f (by simp); have h6 := hm g (by simp)
    simp at ht
    simp only [leN]; omega
theorem top_big {m : List Int} (hm : inB m) (h8 : m.length = 8) : 127 < (m[7]? : Option Int).getD 0 → wi64 (leN m) < 0 := by
  intro ht
  match m, h8 with
  | [a, b, c, d, e, f, g, h], _ =>
    have h0 := hm a (by simp); have h1 := hm b (by simp); have h2 := hm c (by simp); have h3 := hm d (by simp); have h4 := hm e (by simp); have h5 := hm f (by simp); have h6 := hm g (by simp); have h7 := hm h (by simp)
    simp at ht
    have hN : leN [a, b, c, d, e, f, g, h] = a + 256 * (b + 256 * (c + 256 * (d + 256 * (e + 256 * (f + 256 * (g + 256 * (h + 256 * 0))))))) := rfl
    rw [wi64_def, if_pos (by omega)]; omega
/-! srcL -/
theorem wu8_inB (n : Int) : 0 ≤ wu8 n ∧ wu8 n ≤ 255 := by rw [wu8_def]; omega
theorem toB_len (l : List Int) : (toB l).size = l.length := toB_size l
/-! srcM -/
/-! srcA -/
/-! headerL -/
abbrev Msg := Int × Int × ByteArray
theorem inB_tail {x : Int} {r : List Int} (h : inB (x :: r)) : inB r := fun y hy => h y (by simp [hy])
theorem bs_nil : bs [] = toB [] := rfl
theorem byte_cons {x : Int} {r : List Int} (h : inB (x :: r)) (hn : r.length ≤ 1048000) (bad : Bool) : impl_decoder_byte_w (toB (x :: r)) bad = some (x, toB r, bad) := by
  have e : impl_decoder_number_w 1 (toB (x :: r)) bad = _ := impl_number_some (x :: r) h 1 (by omega) (by simp) (by simp; omega) bad
  have hx := h x (by simp)
  rw [impl_decoder_byte_w_eq, e, sbind_some]
  show some (wi64 (x + 256 * 0), toB r, bad) = _
  rw [wi64_id (by omega) (by omega)]
  congr 2; omega
theorem take_fail (l : List Int) (n : Int) (h0 : 0 ≤ n) (hn : (l.length : Int) < n) (h1 : n ≤ 1048576) (bad : Bool) : impl_decoder_take_w n (toB l) bad = some (bs [], toB l, true) := by
  rw [impl_decoder_take_w_eq, impl_cut_eq, toB_size, sif_f (by omega), impl_within_inr, sbind_some, wi64_id (by omega) (by omega), show inr 0 0 ((l.length : Int) - n) = false by rw [← Bool.not_eq_true, inr_iff]; omega, Bool.not_false, sif_true, sbind_some]
  dsimp only
  rw [Bool.not_false, sif_true]
theorem getBits_nil : impl_getBits (bs []) = some 0 := by
  rw [bs_nil, impl_getBits_some [] (fun x hx => by cases hx) (by simp)]; rfl
theorem number_fail (l : List Int) (n : Int) (h0 : 0 ≤ n) (hn : (l.length : Int) < n) (h1 : n ≤ 1048576) (bad : Bool) : impl_decoder_number_w n (toB l) bad = some (0, toB l, true) := by
  rw [impl_decoder_number_w_eq, take_fail l n h0 hn h1 bad, sbind_some]
  dsimp only
  rw [getBits_nil, sbind_some, wi64_id (by omega) (by omega)]
theorem byte_nil (bad : Bool) : impl_decoder_byte_w (toB []) bad = some (0, toB [], true) := by
  rw [impl_decoder_byte_w_eq, number_fail [] 1 (by omega) (by simp) (by omega) bad, sbind_some]
theorem take_ok (l : List Int) (n : Int) (h0 : 0 ≤ n) (hn : n ≤ l.length) (h1 : l.length ≤ 1048576) (bad : Bool) : impl_decoder_take_w n (toB l) bad = some (toB (l.take n.toNat), toB (l.drop n.toNat), bad) := by
  rw [impl_decoder_take_w_eq, impl_cut_eq, toB_size, sif_f (by omega), impl_within_inr, sbind_some, wi64_id (n := (l.length : Int) - n) (by omega) (by omega), show inr 0 0 ((l.length : Int) - n) = true by rw [inr_iff]; omega, Bool.not_true, sif_false, wi64_id (n := 0 + n) (by omega) (by omega), sif_pos (le3_ok (by omega) (by omega)), sif_pos (le3_ok (by omega) (by omega)), sbind_some]
  dsimp only
  rw [Bool.not_true, sif_false, sif_pos (le3_ok (by omega) (by omega)), extract_toB, extract_toB, List.take_length, show (0 + n).toNat = n.toNat by omega, show (0 : Int).toNat = 0 from rfl, List.drop_zero]
def okMsg (m : Msg) : Bool := inr m.1 1 9 && (inr m.2.1 0 255 && decide ((m.2.2.size : Int) ≤ 200))
def vH (k r : Int) (ms : List Msg) : Bool := inr k 1 3 && (inr r 0 1000 && (decide ((ms.length : Int) ≤ 24) && ms.all okMsg))
def encMsg (m : Msg) : List Int := leB m.1 1 ++ leB m.2.1 1 ++ leB (m.2.2.size : Int) 1 ++ ofB m.2.2
def encH (k r : Int) (ms : List Msg) : List Int := leB k 1 ++ leB r 2 ++ leB (ms.length : Int) 1 ++ ms.flatMap encMsg
theorem encMsg_in (m : Msg) : inB (encMsg m) := inB_append (inB_append (inB_append (leB_in _ _) (leB_in _ _)) (leB_in _ _)) (ofB_inB _)
theorem encMsg_len (m : Msg) : (encMsg m).length = 3 + m.2.2.size := by simp [encMsg, leB_len, ofB_len]; omega
theorem flat_in (ms : List Msg) : inB (ms.flatMap encMsg) := fun x hx => by
  obtain ⟨m, _, h⟩ := List.mem_flatMap.1 hx
  exact encMsg_in m x h
theorem encH_in (k r : Int) (ms : List Msg) : inB (encH k r ms) := inB_append (inB_append (inB_append (leB_in _ _) (leB_in _ _)) (leB_in _ _)) (flat_in ms)
theorem flat_len {ms : List Msg} (h : ∀ m ∈ ms, m.2.2.size ≤ 200) : (ms.flatMap encMsg).length ≤ ms.length * 203 := by
  induction ms with
  | nil => simp
  | cons m ms ih =>
    have := ih (fun x hx => h x (by simp [hx])); have h1 := h m (by simp)
    rw [List.flatMap_cons, List.length_append, encMsg_len, List.length_cons]; omega
theorem okMsg_size {m : Msg} (h : okMsg m = true) : m.2.2.size ≤ 200 := by
  unfold okMsg at h
  simp only [Bool.and_eq_true, decide_eq_true_eq] at h
  omega
theorem vH_iff {k r : Int} {ms : List Msg} : vH k r ms = true ↔ (1 ≤ k ∧ k ≤ 3) ∧ (0 ≤ r ∧ r ≤ 1000) ∧ (ms.length : Int) ≤ 24 ∧ ∀ m ∈ ms, okMsg m = true := by
  unfold vH
  simp only [Bool.and_eq_true, inr_iff, decide_eq_true_eq, List.all_eq_true]
/-! within -/
theorem spec_l00In_some (n lo hi : Int) : spec_l00In n lo hi = some (inr n lo hi) := by rw [spec_l00In_eq, inr_sif]
theorem impl_within_some (n lo hi : Int) : impl_within n lo hi = some (inr n lo hi) := by rw [impl_within_eq, inr_sif]
/-! FnExactDecodeLinks -/
def hpE (s : ByteArray) : Bool := seq s (bs []) || isNm s
def lastE (H : List ByteArray) : Bool := match H[H.length - 1]? with
  | some x => seq x (bs [])
  | none => false
def hpM (H : List ByteArray) : Bool := decide ((H.length : Int) ≤ 30) && (!lastE H && H.all hpE)
theorem sif_hpE {R : Type} (x : ByteArray) (K no : Option R) : sif (!seq x (bs [])) (sif (!isNm x) no K) K = sif (hpE x) K no := by
  unfold hpE
  cases seq x (bs []) <;> cases isNm x <;> rfl
theorem last_idx {H : List ByteArray} (h : 0 < H.length) : ∃ x, idx H ((H.length : Int) - 1) = some x ∧ lastE H = seq x (bs []) := by
  have hlt : H.length - 1 < H.length := by omega
  have h1 : H[H.length - 1]? = some H[H.length - 1] := List.getElem?_eq_getElem hlt
  refine ⟨H[H.length - 1], ?_, by unfold lastE; rw [h1]⟩
  rw [show (H.length : Int) - 1 = ((H.length - 1 : Nat) : Int) by omega, idx_some h1]
theorem spec_hp_some (H : List ByteArray) : spec_l16Ok H = some (hpM H) := by
  rw [spec_l16Ok_eq, hpM]
  by_cases h30 : (H.length : Int) > 30
  · rw [sif_t h30, decide_eq_false (by omega), Bool.false_and]
  rw [sif_f h30, decide_eq_true (show (H.length : Int) ≤ 30 by omega), Bool.true_and]
  have k := all_loop H hpE (fun i => spec_l16Ok_l5 (H.length : Int) (i : Int) H) false (fun i x hx hi => by
    rw [spec_l16Ok_l5_eq, sif_t (by omega), idx_some hx, sbind_some, sbind_some, spec_IsName_some, sbind_some, wi64_add1 (by omega), sif_hpE])
  have hk : spec_l16Ok_l5 (H.length : Int) 0 H = some (H.all hpE) := k.trans (by rw [spec_l16Ok_l5_eq, sif_f (by omega), sif_bool, Bool.and_true])
  by_cases h0 : 0 < H.length
  · obtain ⟨x, h1, h2⟩ := last_idx h0
    rw [sif_t (by omega), wi64_id (by omega) (by omega), h1, sbind_some, hk, h2]
    cases seq x (bs []) <;> rfl
  · obtain rfl : H = [] := List.length_eq_zero_iff.1 (by omega)
    rw [sif_f (by simp), hk]; rfl
theorem impl_hp_some (H : List ByteArray) (hs : ∀ x ∈ H, x.size ≤ 1048576) : impl_ValidHeap H = some (hpM H) := by
  rw [impl_ValidHeap_eq, hpM]
  by_cases h30 : (H.length : Int) ≤ 30
  · have k1 : slices_ContainsFunc_sstring_string_d_ValidHeap_1 H = some (H.any (fun n => !hpE n)) := by
      rw [slices_ContainsFunc_sstring_string_d_ValidHeap_1_eq, slices_IndexFunc_sstring_string_d_ValidHeap_1_eq]
      refine find_any (find_loop H _ (fun i => slices_IndexFunc_sstring_string_d_ValidHeap_1_l2 H (H.length : Int) i) (by rw [slices_IndexFunc_sstring_string_d_ValidHeap_1_l2_eq, sif_f (by omega)]) (fun i x hx hi => ?_))
      rw [slices_IndexFunc_sstring_string_d_ValidHeap_1_l2_eq, sif_t (by omega), idx_some hx, sbind_some, impl_ValidHeap_1_eq, impl_IsName_some x (by have := hs x (mem_of_at hx); omega), sbind_some, wi64_add1 (by omega)]
      unfold hpE
      cases seq x (bs []) <;> cases isNm x <;> rfl
    have k2 : slices_ContainsFunc_sstring_string_d_ValidHeap_1 H = some (!H.all hpE) := by rw [k1, any_not_all H hpE _ (fun _ _ => rfl)]
    rw [sif_t h30, decide_eq_true h30, Bool.true_and, k2, sbind_some, Bool.not_not]
    by_cases h0 : 0 < H.length
    · obtain ⟨x, h1, h2⟩ := last_idx h0
      rw [sif_neg (by rw [beq_eq_false_iff_ne]; omega), wi64_id (by omega) (by omega), h1, sbind_some, h2]
      cases seq x (bs []) <;> rfl
    · obtain rfl : H = [] := List.length_eq_zero_iff.1 (by omega)
      rfl
  · rw [sif_f h30, decide_eq_false h30, Bool.false_and]
def usedM (H : List ByteArray) (a : Int) : Option ByteArray := match idx H a with
  | some x => if seq x (bs []) = true then none else some x
  | none => none
theorem idx_out {H : List ByteArray} {a : Int} (h : inr a 0 ((H.length : Int) - 1) = false) : idx H a = none := by
  unfold idx
  by_cases h0 : 0 ≤ a
  · rw [if_pos h0]
    refine List.getElem?_eq_none ?_
    by_cases h1 : a ≤ (H.length : Int) - 1
    · rw [inr_iff.2 ⟨h0, h1⟩] at h; cases h
    · omega
  · rw [if_neg h0]
theorem idx_in {H : List ByteArray} {a : Int} (h : inr a 0 ((H.length : Int) - 1) = true) : ∃ x, idx H a = some x ∧ x ∈ H := by
  obtain ⟨h0, h1⟩ := inr_iff.1 h
  have hlt : a.toNat < H.length := by omega
  exact ⟨H[a.toNat], by rw [idx_int h0, List.getElem?_eq_getElem hlt], List.getElem_mem hlt⟩
theorem hp_len {H : List ByteArray} (h : hpM H = true) : H.length ≤ 30 := by
  unfold hpM at h
  simp only [Bool.and_eq_true, decide_eq_true_eq] at h
  omega
theorem used_in {H : List ByteArray} {a : Int} {x : ByteArray} (h : idx H a = some x) : usedM H a = if seq x (bs []) = true then none else some x := by unfold usedM; rw [h]
theorem used_out {H : List ByteArray} {a : Int} (h : idx H a = none) : usedM H a = none := by unfold usedM; rw [h]
def nmP : Option ByteArray → ByteArray × Bool
  | some x => (x, true)
  | none => (bs [], false)
theorem spec_nameat_some (H : List ByteArray) (hp : hpM H = true) (a : Int) : spec_NameAt H a = some (nmP (usedM H a)) := by
  have hl := hp_len hp
  rw [spec_NameAt_eq, spec_hp_some, hp, sbind_some, Bool.not_true, sif_false, wi64_id (by omega) (by omega), spec_l00In_some, sbind_some]
  cases hr : inr a 0 ((H.length : Int) - 1) with
  | false => rw [used_out (idx_out hr)]; rfl
  | true =>
    obtain ⟨x, hx, _⟩ := idx_in hr
    rw [used_in hx, hx, Bool.not_true, sif_false, sbind_some, sbind_some]
    cases seq x (bs []) <;> rfl
theorem impl_used_some (H : List ByteArray) (hp : hpM H = true) (a : Int) : impl_NameHeap_used H a = some (usedM H a).isSome := by
  have hl := hp_len hp
  rw [impl_NameHeap_used_eq, impl_isIndex_eq, wi64_id (by omega) (by omega), impl_within_some, sbind_some, sbind_some]
  cases hr : inr a 0 ((H.length : Int) - 1) with
  | false => rw [used_out (idx_out hr)]; rfl
  | true =>
    obtain ⟨x, hx, _⟩ := idx_in hr
    rw [used_in hx, hx, sif_true, sbind_some]
    cases seq x (bs []) <;> rfl
theorem used_idx {H : List ByteArray} {a : Int} {x : ByteArray} (h : usedM H a = some x) : idx H a = some x ∧ x ∈ H := by
  unfold usedM at h
  cases hi : idx H a with
  | none => rw [hi] at h; cases h
  | some y =>
    rw [hi] at h
    have h : (if seq y (bs []) = true then none else some y) = some x := h
    split at h
    · cases h
    · cases h
      refine ⟨rfl, ?_⟩
      unfold idx at hi
      split at hi
      · exact List.mem_of_getElem? hi
      · cases hi
/-! one link -/
def stepB (x : ByteArray) (b : Int) (r : List Int) : Option ((ByteArray × Int × ByteArray) × List Int) := if b = 0 then (match r with
      | c :: d :: r' => some ((x, c + 256 * d, bs []), r')
      | _ => none)
    else if (r.length : Int) < b then none else some ((x, 0, toB (r.take b.toNat)), r.drop b.toNat)
def stepL (H : List ByteArray) : List Int → Option ((ByteArray × Int × ByteArray) × List Int)
  | a :: b :: r => (usedM H a).bind fun x => stepB x b r
  | _ => none
theorem stepL_none {H : List ByteArray} {a b : Int} {r : List Int} (h : usedM H a = none) : stepL H (a :: b :: r) = none := by
  show (usedM H a).bind _ = none
  rw [h]; rfl
theorem stepL_some {H : List ByteArray} {a b : Int} {r : List Int} {x : ByteArray} (h : usedM H a = some x) : stepL H (a :: b :: r) = stepB x b r := by
  show (usedM H a).bind _ = _
  rw [h]; rfl
theorem stepB_0 (x : ByteArray) : stepB x 0 [] = none := rfl
theorem stepB_1 (x : ByteArray) (c : Int) : stepB x 0 [c] = none := rfl
theorem stepB_2 (x : ByteArray) (c d : Int) (r : List Int) : stepB x 0 (c :: d :: r) = some ((x, c + 256 * d, bs []), r) := rfl
theorem stepB_n (x : ByteArray) {b : Int} (r : List Int) (hb : b ≠ 0) : stepB x b r = if (r.length : Int) < b then none else some ((x, 0, toB (r.take b.toNat)), r.drop b.toNat) := by unfold stepB; rw [if_neg hb]
theorem step_in {H : List ByteArray} {t : List Int} {l : (ByteArray × Int × ByteArray)} {r : List Int} (ht : inB t) (h : stepL H t = some (l, r)) : inB r ∧ r.length + 2 ≤ t.length ∧ (∃ k, r = t.drop k) ∧ l.1 ∈ H ∧ l.2.2.size ≤ 255 := by
  match t, h with
  | a :: b :: r0, h =>
    have ht0 : inB r0 := fun x hx => ht x (by simp [hx])
    have hb := ht b (by simp)
    cases hu : usedM H a with
    | none => rw [stepL_none hu] at h; cases h
    | some x =>
      have hm := (used_idx hu).2
      rw [stepL_some hu] at h
      by_cases hb0 : b = 0
      · subst hb0
        match r0, h with
        | [], h => cases h
        | [c], h => cases h
        | c :: d :: r', h =>
          rw [stepB_2] at h
          cases h
          exact ⟨fun x hx => ht0 x (by simp [hx]), by simp <;> omega, ⟨4, rfl⟩, hm, by rw [bs_size]; simp⟩
      · rw [stepB_n x r0 hb0] at h
        split at h
        · cases h
        · cases h
          refine ⟨inB_drop ht0 _, by simp <;> omega, ⟨b.toNat + 2, by simp⟩, hm, ?_⟩
          show (toB (r0.take b.toNat)).size ≤ _
          rw [toB_size, List.length_take]; omega
  | [a], h => cases h
  | [], h => cases h
section
variable (L : List Int) (hL : inB L) (hn : L.length ≤ 1048576)
include hL hn
theorem sb_some {i : Nat} {a : Int} {t : List Int} (h : L.drop i = a :: t) (bad : Bool) : spec_l02Reader_byte_w (toB L) (i : Int) bad = some (a, toB L, ((i + 1 : Nat) : Int), bad) := by
  obtain ⟨h1, h2, _⟩ := drop_head h
  have hb := hL a (mem_of_at h1)
  rw [spec_l02Reader_byte_w_eq, toB_size, sif_f (by omega), wi64_add1 (by omega), wi64_id (n := ((i + 1 : Nat) : Int) - 1) (by omega) (by omega), show ((i + 1 : Nat) : Int) - 1 = (i : Int) by omega, bidx_toB hL (by omega), Int.toNat_natCast, h1, sbind_some, wi64_id (by omega) (by omega)]
theorem sb_none {i : Nat} (h : L.drop i = []) (bad : Bool) : spec_l02Reader_byte_w (toB L) (i : Int) bad = some (0, toB L, (i : Int), true) := by
  have := List.drop_eq_nil_iff.1 h
  rw [spec_l02Reader_byte_w_eq, toB_size, sif_t (by omega)]
theorem st_ok {i n : Nat} {t : List Int} (h : L.drop i = t) (hi : i ≤ L.length) (hk : n ≤ t.length) (bad : Bool) : spec_l02Reader_take_w (n : Int) (toB L) (i : Int) bad = some (toB (t.take n), toB L, ((i + n : Nat) : Int), bad) := by
  have hl : t.length = L.length - i := by rw [← h, List.length_drop]
  rw [spec_l02Reader_take_w_eq, toB_size, sif_f (by omega), wi64_id (n := (L.length : Int) - i) (by omega) (by omega), sif_f (by omega), wi64_id (n := (i : Int) + n) (by omega) (by omega), wi64_id (n := (i : Int) + n - n) (by omega) (by omega), sif_pos (le3_ok (by omega) (by omega)), sif_pos (le3_ok (by omega) (by omega)), show ((i : Int) + n - n).toNat = i by omega, show ((i : Int) + n).toNat = i + n by omega, ext_tk, h, show i + n - i = n by omega]
  rfl
theorem st_fail {i : Nat} {n : Int} {t : List Int} (h : L.drop i = t) (hi : i ≤ L.length) (h0 : 0 ≤ n) (hk : (t.length : Int) < n) (bad : Bool) : spec_l02Reader_take_w n (toB L) (i : Int) bad = some (bs [], toB L, (i : Int), true) := by
  have hl : t.length = L.length - i := by rw [← h, List.length_drop]
  rw [spec_l02Reader_take_w_eq, toB_size, sif_f (by omega), wi64_id (n := (L.length : Int) - i) (by omega) (by omega), sif_t (by omega)]
theorem spec_bad (H : List ByteArray) (i : Int) (out : List (ByteArray × Int × ByteArray)) : spec_DecodeLinks_l5 (toB L) H (toB L) i true out = some (false, []) := by
  rw [spec_DecodeLinks_l5_eq, Bool.not_true, sif_false, sif_true]
  cases decide (i < ((toB L).size : Int)) <;> rfl
noncomputable def nxS (H : List ByteArray) (out : List (ByteArray × Int × ByteArray)) : Option ((ByteArray × Int × ByteArray) × List Int) → Option (Bool × List (ByteArray × Int × ByteArray))
  | none => some (false, [])
  | some q => spec_DecodeLinks_l5 (toB L) H (toB L) ((L.length - q.2.length : Nat) : Int) false (out ++ [q.1])
theorem spec_step (H : List ByteArray) (hp : hpM H = true) (i : Nat) (t : List Int) (h : L.drop i = t) (h0 : t ≠ []) (out : List (ByteArray × Int × ByteArray)) (ho : out.length ≤ 1048576) :
    spec_DecodeLinks_l5 (toB L) H (toB L) (i : Int) false out = nxS L H out (stepL H t) := by
  have hr : room (out.length + 1) 40 = true := room_ok (by omega)
  match t, h0, h with
  | a :: t1, _, h =>
    obtain ⟨h1, h2, h3⟩ := drop_head h
    rw [spec_DecodeLinks_l5_eq, toB_size, sif_t (by omega), Bool.not_false, sif_true, sb_some L hL hn h, sbind_some, spec_nameat_some H hp, sbind_some]
    cases hu : usedM H a with
    | none =>
      have e : stepL H (a :: t1) = none := by
        cases t1 with
        | nil => rfl
        | cons b r => exact stepL_none hu
      rw [e]; rfl
    | some x =>
      show sif (!true) _ _ = _
      rw [Bool.not_true, sif_false]
      match t1, h3 with
      | [], h3 =>
        rw [sb_none L hL hn h3, sbind_some, kbeq rfl, sif_true, sb_none L hL hn h3, sbind_some, sb_none L hL hn h3, sbind_some]
        have ht := st_ok L hL hn (n := 0) h3 (by omega) (by simp) true
        rw [show spec_l02Reader_take_w 0 (toB L) ((i + 1 : Nat) : Int) true = _ from ht, sbind_some, sif_pos hr]
        exact spec_bad L hL hn H _ _
      | b :: r, h3 =>
        have hb := hL b (List.mem_of_getElem? (drop_head h3).1)
        obtain ⟨g1, g2, g3⟩ := drop_head h3
        rw [stepL_some hu, sb_some L hL hn h3, sbind_some]
        by_cases hb0 : b = 0
        · subst hb0
          rw [kbeq rfl, sif_true]
          match r, g3 with
          | [], g3 =>
            have ht := st_ok L hL hn (n := 0) g3 (by omega) (by simp) true
            rw [sb_none L hL hn g3, sbind_some, sb_none L hL hn g3, sbind_some, show spec_l02Reader_take_w 0 (toB L) ((i + 1 + 1 : Nat) : Int) true = _ from ht, sbind_some, sif_pos hr]
            exact spec_bad L hL hn H _ _
          | [c], g3 =>
            obtain ⟨k1, k2, k3⟩ := drop_head g3
            have ht := st_ok L hL hn (n := 0) k3 (by omega) (by simp) true
            rw [sb_some L hL hn g3, sbind_some, sb_none L hL hn k3, sbind_some, show spec_l02Reader_take_w 0 (toB L) ((i + 1 + 1 + 1 : Nat) : Int) true = _ from ht, sbind_some, sif_pos hr]
            exact spec_bad L hL hn H _ _
          | c :: d :: r', g3 =>
            obtain ⟨k1, k2, k3⟩ := drop_head g3
            obtain ⟨m1, m2, m3⟩ := drop_head k3
            have hc := hL c (List.mem_of_getElem? k1)
            have hd := hL d (List.mem_of_getElem? m1)
            have ht := st_ok L hL hn (n := 0) m3 (by omega) (by simp) false
            have hlen : r'.length = L.length - (i + 1 + 1 + 1 + 1) := by rw [← m3, List.length_drop]
            rw [sb_some L hL hn g3, sbind_some, sb_some L hL hn k3, sbind_some, show spec_l02Reader_take_w 0 (toB L) ((i + 1 + 1 + 1 + 1 : Nat) : Int) false = _ from ht, sbind_some, sif_pos hr, wi64_id (n := 256 * d) (by omega) (by omega), wi64_id (by omega) (by omega), stepB_2]
            show _ = spec_DecodeLinks_l5 (toB L) H (toB L) ((L.length - r'.length : Nat) : Int) false (out ++ [(x, c + 256 * d, bs [])])
            rw [hlen, show L.length - (L.length - (i + 1 + 1 + 1 + 1)) = i + 1 + 1 + 1 + 1 + 0 by omega]
            rfl
        · rw [kbne hb0, sif_false, stepB_n x r hb0]
          have hlen : r.length = L.length - (i + 1 + 1) := by rw [← g3, List.length_drop]
          by_cases hlt : (r.length : Int) < b
          · rw [if_pos hlt, st_fail L hL hn g3 (by omega) (by omega) hlt, sbind_some, sif_pos hr]
            exact spec_bad L hL hn H _ _
          · have ht := st_ok L hL hn (n := b.toNat) g3 (by omega) (by omega) false
            rw [show ((b.toNat : Nat) : Int) = b by omega] at ht
            rw [if_neg hlt, ht, sbind_some, sif_pos hr]
            show _ = spec_DecodeLinks_l5 (toB L) H (toB L) ((L.length - (r.drop b.toNat).length : Nat) : Int) false (out ++ [(x, 0, toB (r.take b.toNat))])
            rw [List.length_drop, hlen, show L.length - (L.length - (i + 1 + 1) - b.toNat) = i + 1 + 1 + b.toNat by omega]
            rfl
end
theorem ib_some {a : Int} {t : List Int} (h : inB (a :: t)) (hn : (a :: t).length ≤ 1048576) (bad : Bool) : impl_decoder_byte_w (toB (a :: t)) bad = some (a, toB t, bad) := by
  have hb := h a (by simp)
  have := impl_number_some (a :: t) h 1 (by omega) (by simp) hn bad
  rw [impl_decoder_byte_w_eq, show impl_decoder_number_w 1 (toB (a :: t)) bad = _ from this, sbind_some]
  show some (wi64 (leN [a]), toB t, bad) = _
  rw [show leN [a] = a by simp [leN], wi64_id (by omega) (by omega)]
theorem ib_nil (bad : Bool) : impl_decoder_byte_w (toB []) bad = some (0, toB [], true) := byte_nil bad
theorem impl_bad (H : List ByteArray) (s : ByteArray) (out : List (ByteArray × Int × ByteArray)) : impl_DecodeLinks_l5 H s true out = some (false, []) := by
  rw [impl_DecodeLinks_l5_eq, Bool.not_true, sif_false, sif_true]
  cases !seq s (bs []) <;> rfl
theorem impl_link_some (H : List ByteArray) (hp : hpM H = true) (t : List Int) (ht : inB t) (hn : t.length ≤ 1048576) (h0 : t ≠ []) :
    ∃ res : ByteArray × Int × ByteArray × ByteArray × Bool, impl_decoder_link_wd H (toB t) false = some res ∧ (∀ l r, stepL H t = some (l, r) → res = (l.1, l.2.1, l.2.2, toB r, false)) ∧ (stepL H t = none → res.2.2.2.2 = true) := by
  match t, h0, ht, hn with
  | [a], _, ht, hn =>
    rw [impl_decoder_link_wd_eq, ib_some ht hn, sbind_some, ib_nil, sbind_some]
    exact ⟨_, rfl, fun l r h => (by cases h), fun _ => rfl⟩
  | a :: b :: r, _, ht, hn =>
    have ht1 : inB (b :: r) := fun x hx => ht x (by simp at hx ⊢; right; exact hx)
    have ht2 : inB r := fun x hx => ht x (by simp [hx])
    have hb := ht b (by simp)
    have hn2 : r.length + 2 ≤ 1048576 := hn
    rw [impl_decoder_link_wd_eq, ib_some ht hn, sbind_some, ib_some ht1 (by simp; omega), sbind_some, sif_false, impl_used_some H hp, sbind_some]
    cases hu : usedM H a with
    | none =>
      rw [stepL_none hu]
      exact ⟨_, rfl, fun l r h => (by cases h), fun _ => rfl⟩
    | some x =>
      rw [stepL_some hu, show (!(some x : Option ByteArray).isSome) = false from rfl, sif_false, (used_idx hu).1, sbind_some]
      by_cases hb0 : b = 0
      · subst hb0
        rw [kbeq rfl, sif_true]
        match r, ht2, hn2 with
        | [], _, _ =>
          rw [number_fail [] 2 (by omega) (by simp) (by omega), sbind_some]
          exact ⟨_, rfl, fun l r h => (by cases h), fun _ => rfl⟩
        | [c], _, _ =>
          rw [number_fail [c] 2 (by omega) (by simp) (by omega), sbind_some]
          exact ⟨_, rfl, fun l r h => (by cases h), fun _ => rfl⟩
        | c :: d :: r', ht2, hn2 =>
          have hc := ht2 c (by simp)
          have hd := ht2 d (by simp)
          have := impl_number_some (c :: d :: r') ht2 2 (by omega) (by simp) (by omega) false
          rw [show impl_decoder_number_w 2 (toB (c :: d :: r')) false = _ from this, sbind_some, stepB_2]
          refine ⟨_, rfl, fun l r h => ?_, fun h => (by cases h)⟩
          cases h
          show (x, wi64 (leN [c, d]), bs [], toB r', false) = _
          rw [show leN [c, d] = c + 256 * d by simp [leN], wi64_id (by omega) (by omega)]
      · rw [kbne hb0, sif_false, stepB_n x r hb0]
        by_cases hlt : (r.length : Int) < b
        · rw [if_pos hlt, take_fail r b (by omega) hlt (by omega), sbind_some]
          exact ⟨_, rfl, fun l r h => (by cases h), fun _ => rfl⟩
        · rw [if_neg hlt, take_ok r b (by omega) (by omega) (by omega), sbind_some]
          refine ⟨_, rfl, fun l r h => ?_, fun h => (by cases h)⟩
          cases h; rfl
/-! the links as a whole -/
def lk1 (l : (ByteArray × Int × ByteArray)) : Bool := isNm l.1 && (if seq l.2.2 (bs []) = true then inr l.2.1 1 255 else ((l.2.1 == 0) && pathM (ofB l.2.2)))
def lkD : (ByteArray × Int × ByteArray) := (bs [], 0, bs [])
def lkAt (l : List (ByteArray × Int × ByteArray)) (i : Nat) : Bool := lk1 (l.getD i lkD) && (decide (i = 0) || slt (l.getD (i - 1) lkD).1 (l.getD i lkD).1)
def lkM (l : List (ByteArray × Int × ByteArray)) : Bool := (List.range l.length).all (lkAt l) && decide ((l.length : Int) ≤ 12)
theorem lkG {l : List (ByteArray × Int × ByteArray)} {i : Nat} (h : i < l.length) : l[i]? = some (l.getD i lkD) := by
  rw [List.getD_eq_getElem?_getD, List.getElem?_eq_getElem h]; rfl
theorem bl_tri : ∀ x y : List UInt8, (!Op.bytesLess x y) = (Op.bytesLess y x || decide (y = x))
  | [], [] => rfl
  | [], b :: s => rfl
  | a :: r, [] => rfl
  | a :: r, b :: s => by
    have ih := bl_tri r s
    rw [Op.bytesLess, Op.bytesLess]
    by_cases h : a < b
    · have h2 : ¬ b < a := fun h' => UInt8.lt_irrefl a (UInt8.lt_trans h h')
      have hne : b ≠ a := fun e => by rw [e] at h; exact UInt8.lt_irrefl a h
      rw [decide_eq_true h, decide_eq_false h2, show (b == a) = false from beq_eq_false_iff_ne.2 hne, decide_eq_false (fun e => hne (List.cons.inj e).1)]; rfl
    · by_cases h2 : b < a
      · have hne : a ≠ b := fun e => by rw [e] at h2; exact UInt8.lt_irrefl b h2
        rw [decide_eq_false h, decide_eq_true h2, show (a == b) = false from beq_eq_false_iff_ne.2 hne]; rfl
      · have he : a = b := UInt8.le_antisymm (UInt8.not_lt.1 h2) (UInt8.not_lt.1 h)
        subst he
        rw [decide_eq_false h, beq_self_eq_true, Bool.true_and, Bool.false_or, Bool.false_or, ih]
        congr 1
        rw [decide_eq_decide]
        exact ⟨fun e => by rw [e], fun e => (List.cons.inj e).2⟩
theorem slt_tri (a b : ByteArray) : (slt b a || seq b a) = !slt a b := by
  unfold slt
  rw [bl_tri, seq_eq, ByteArray.toList_eq, ByteArray.toList_eq]
  congr 1
  rw [decide_eq_decide]
  refine ⟨fun e => by rw [e], fun e => ?_⟩
  cases a; cases b
  congr 1
  exact Array.toList_inj.1 e
theorem path_of (p : ByteArray) (h : p.size ≤ 1048576) : spec_ValidPath p = some (pathM (ofB p)) ∧ impl_ValidPath p = some (pathM (ofB p)) := by
  have a := spec_path_some (ofB p) (ofB_inB p) (by rw [ofB_len]; exact h)
  have b := impl_path_some (ofB p) (ofB_inB p) (by rw [ofB_len]; exact h)
  rw [toB_ofB] at a b
  exact ⟨a, b⟩
def lkOk (l : (ByteArray × Int × ByteArray)) : Prop := l.1.size ≤ 1048576 ∧ l.2.2.size ≤ 1048576
theorem spec_lk_some (l : List (ByteArray × Int × ByteArray)) (hl : l.length ≤ 1048576) (h : ∀ x ∈ l, lkOk x) : spec_l17Ok l = some (lkM l) := by
  rw [spec_l17Ok_eq, lkM]
  have k := all_loop (List.range l.length) (lkAt l) (fun i => spec_l17Ok_l2 l (i : Int)) false (fun i x hx hi => by
    rw [List.length_range] at hi
    rw [List.getElem?_range hi, Option.some.injEq] at hx
    subst hx
    have g := lkG hi
    have hok := h _ (mem_of_at g)
    rw [spec_l17Ok_l2_eq, sif_t (by omega), idx_some g, sbind_some, spec_IsName_some, sbind_some, spec_l00In_some, (path_of _ hok.2).1, wi64_add1 (by omega), lkAt, lk1]
    generalize isNm (l.getD i lkD).1 = n1
    generalize seq (l.getD i lkD).2.2 (bs []) = n2
    generalize inr (l.getD i lkD).2.1 1 255 = n3
    generalize pathM (ofB (l.getD i lkD).2.2) = n4
    rw [show ((l.getD i lkD).2.1 != 0) = !((l.getD i lkD).2.1 == 0) from rfl]
    generalize ((l.getD i lkD).2.1 == 0) = n5
    by_cases h0 : i = 0
    · subst h0
      rw [sif_f (by omega), decide_eq_true rfl, Bool.true_or, Bool.and_true]
      cases n1 <;> cases n2 <;> cases n3 <;> cases n4 <;> cases n5 <;> rfl
    · have g2 : l[i - 1]? = some (l.getD (i - 1) lkD) := lkG (by omega)
      rw [sif_t (by omega), wi64_id (by omega) (by omega), show (i : Int) - 1 = ((i - 1 : Nat) : Int) by omega, idx_some g2, sbind_some, decide_eq_false h0, Bool.false_or]
      generalize slt (l.getD (i - 1) lkD).1 (l.getD i lkD).1 = n6
      cases n1 <;> cases n6 <;> cases n2 <;> cases n3 <;> cases n4 <;> cases n5 <;> rfl)
  rw [show spec_l17Ok_l2 l 0 = _ from k, List.length_range, spec_l17Ok_l2_eq, sif_f (by omega), sif_bool]
theorem impl_lk_some (l : List (ByteArray × Int × ByteArray)) (hl : l.length ≤ 1048576) (h : ∀ x ∈ l, lkOk x) : impl_ValidLinks l = some (lkM l) := by
  rw [impl_ValidLinks_eq, lkM]
  have k := all_loop (List.range l.length) (lkAt l) (fun i => impl_ValidLinks_l2 l l (l.length : Int) (i : Int)) false (fun i x hx hi => by
    rw [List.length_range] at hi
    rw [List.getElem?_range hi, Option.some.injEq] at hx
    subst hx
    have g := lkG hi
    have hok := h _ (mem_of_at g)
    rw [impl_ValidLinks_l2_eq, sif_t (by omega), idx_some g, sbind_some, impl_linkOk_eq, impl_IsName_some _ (by have := hok.1; omega), sbind_some, impl_within_some, sbind_some, (path_of _ hok.2).2, sbind_some, wi64_add1 (by omega), lkAt, lk1]
    generalize isNm (l.getD i lkD).1 = n1
    generalize seq (l.getD i lkD).2.2 (bs []) = n2
    generalize inr (l.getD i lkD).2.1 1 255 = n3
    generalize pathM (ofB (l.getD i lkD).2.2) = n4
    generalize ((l.getD i lkD).2.1 == 0) = n5
    by_cases h0 : i = 0
    · subst h0
      rw [sif_f (by omega), decide_eq_true rfl, Bool.true_or, Bool.and_true]
      cases n1 <;> cases n2 <;> cases n3 <;> cases n4 <;> cases n5 <;> rfl
    · have g2 : l[i - 1]? = some (l.getD (i - 1) lkD) := lkG (by omega)
      rw [sif_t (by omega), wi64_id (by omega) (by omega), show (i : Int) - 1 = ((i - 1 : Nat) : Int) by omega, idx_some g2, sbind_some, decide_eq_false h0, Bool.false_or, slt_tri]
      generalize slt (l.getD (i - 1) lkD).1 (l.getD i lkD).1 = n6
      cases n1 <;> cases n6 <;> cases n2 <;> cases n3 <;> cases n4 <;> cases n5 <;> rfl)
  rw [show impl_ValidLinks_l2 l l (l.length : Int) 0 = _ from k, List.length_range, impl_ValidLinks_l2_eq, sif_f (by omega), sif_bool]
def ne0 (x : ByteArray) : Bool := !seq x (bs [])
def cntE (H : List ByteArray) : Nat := (H.filter ne0).length
theorem spec_cnt_some (H : List ByteArray) (hl : H.length ≤ 1048576) : spec_l17Count H = some (cntE H : Int) := by
  rw [spec_l17Count_eq]
  have k := loop_up H (fun i (n : Nat) => spec_l17Count_l3 (n : Int) (i : Int) H) (fun r n => some ((n + cntE r : Nat) : Int)) (fun i n => n ≤ i)
    (fun n _ => by rw [spec_l17Count_l3_eq, sif_f (by omega)]; rfl)
    (fun i x r n hx hi hd hI ih => by
      rw [spec_l17Count_l3_eq, sif_t (by omega), idx_some hx, sbind_some, wi64_add1 (by omega), wi64_add1 (by omega)]
      show sif (ne0 x) _ _ = _
      unfold cntE
      rw [List.filter_cons]
      cases h : ne0 x with
      | true =>
        rw [sif_true, if_pos rfl, ih (n + 1) (by omega), List.length_cons]
        unfold cntE
        congr 2; omega
      | false => rw [sif_false, if_neg Bool.false_ne_true, ih n (by omega)]; rfl) 0 0 (by omega) (by omega)
  have : spec_l17Count_l3 0 0 H = some ((0 + cntE H : Nat) : Int) := k
  rw [this, Nat.zero_add]
def fe : List ByteArray → Nat → Int
  | [], _ => -1
  | x :: r, i => if seq x (bs []) = true then (i : Int) else fe r (i + 1)
theorem fe_some : ∀ (l : List ByteArray) (i : Nat), (fe l i = -1 ∧ l.filter ne0 = l) ∨ ∃ o : Nat, o < l.length ∧ fe l i = ((i + o : Nat) : Int) ∧ (l.take o).filter ne0 = l.take o ∧ ∃ x, l[o]? = some x ∧ ne0 x = false
  | [], i => .inl ⟨rfl, rfl⟩
  | x :: r, i => by
    rw [fe]
    by_cases h : seq x (bs []) = true
    · rw [if_pos h]
      exact .inr ⟨0, by simp, by simp, rfl, x, rfl, by unfold ne0; rw [h]; rfl⟩
    · have hx : ne0 x = true := by unfold ne0; rw [Bool.not_eq_true] at h; rw [h]; rfl
      rw [if_neg h]
      rcases fe_some r (i + 1) with ⟨h1, h2⟩ | ⟨o, h0, h1, h2, y, h3, h4⟩
      · exact .inl ⟨h1, by rw [List.filter_cons, hx, if_pos rfl, h2]⟩
      · exact .inr ⟨o + 1, by simp; omega, by rw [h1]; congr 1; omega, by rw [List.take_succ_cons, List.filter_cons, hx, if_pos rfl, h2], y, by simpa using h3, h4⟩
theorem impl_find_some (H : List ByteArray) (hl : H.length ≤ 1048576) : slices_IndexFunc_sstring_string_d_NameHeap_usedSlots_1 H = some (fe H 0) := by
  rw [slices_IndexFunc_sstring_string_d_NameHeap_usedSlots_1_eq]
  have k := loop_up H (fun i (_ : Unit) => slices_IndexFunc_sstring_string_d_NameHeap_usedSlots_1_l2 H (H.length : Int) (i : Int)) (fun r _ => some (fe r (H.length - r.length))) (fun i _ => True)
    (fun _ _ => by rw [slices_IndexFunc_sstring_string_d_NameHeap_usedSlots_1_l2_eq, sif_f (by omega)]; rfl)
    (fun i x r _ hx hi hd _ ih => by
      have hlen : (x :: r).length = H.length - i := by rw [← hd, List.length_drop]
      rw [List.length_cons] at hlen
      have e : H.length - (x :: r).length = i := by rw [List.length_cons]; omega
      rw [slices_IndexFunc_sstring_string_d_NameHeap_usedSlots_1_l2_eq, sif_t (by omega), idx_some hx, sbind_some, impl_NameHeap_usedSlots_1_eq, sbind_some, wi64_add1 (by omega), e, fe]
      cases h : seq x (bs []) with
      | true => rw [sif_true, if_pos rfl]
      | false => rw [sif_false, if_neg Bool.false_ne_true, ih () trivial, show H.length - r.length = i + 1 by omega]) 0 () (by omega) trivial
  have := k
  rw [List.drop_zero, Nat.sub_self] at this
  exact this
theorem impl_del_loop (len : Nat) (hl : len ≤ 1048576) : ∀ (n i j : Nat) (s : List ByteArray), s.length = len → len = j + n → i ≤ j → ∃ r, slices_DeleteFunc_sstring_string_v_NameHeap_usedSlots_1_l5 (i : Int) (j : Int) s = some r ∧ r.length = i + cntE (s.drop j)
  | 0, i, j, s, hs, hj, hi => by
    rw [slices_DeleteFunc_sstring_string_v_NameHeap_usedSlots_1_l5_eq, sif_f (by omega), sif_pos (le3_ok (by omega) (by omega)), Int.toNat_natCast, sif_pos (le3_ok (by omega) (by simp; omega))]
    refine ⟨_, rfl, ?_⟩
    have e0 : s.drop j = [] := List.drop_of_length_le (by omega)
    rw [e0, List.drop_zero, List.length_take]
    simp [cntE]; omega
  | n + 1, i, j, s, hs, hj, hi => by
    have hlt : j < s.length := by omega
    have hd := List.drop_eq_getElem_cons hlt
    rw [slices_DeleteFunc_sstring_string_v_NameHeap_usedSlots_1_l5_eq, sif_t (by omega), sif_pos (lt3_ok (by omega) (by omega)), Int.toNat_natCast, List.getElem?_eq_getElem hlt, sbind_some, impl_NameHeap_usedSlots_1_eq, sbind_some, wi64_add1 (by omega), wi64_add1 (by omega)]
    have hcnt : cntE (s.drop j) = (if ne0 s[j] = true then 1 else 0) + cntE (s.drop (j + 1)) := by
      unfold cntE
      rw [hd, List.filter_cons]
      split
      · rw [List.length_cons, Nat.add_comm]
      · rw [Nat.zero_add]
    show ∃ r, sif (ne0 s[j]) _ _ = some r ∧ _
    cases h : ne0 s[j] with
    | true =>
      rw [sif_true, sif_pos (lt3_ok (by omega) (by omega)), Int.toNat_natCast]
      obtain ⟨r, h1, h2⟩ := impl_del_loop len hl n (i + 1) (j + 1) (s.set i s[j]) (by rw [List.length_set]; exact hs) (by omega) (by omega)
      refine ⟨r, h1, ?_⟩
      rw [h2, hcnt, h, if_pos rfl, List.drop_set, if_pos (by omega)]; omega
    | false =>
      rw [sif_false]
      obtain ⟨r, h1, h2⟩ := impl_del_loop len hl n i (j + 1) s hs (by omega) (by omega)
      refine ⟨r, h1, ?_⟩
      rw [h2, hcnt, h, if_neg Bool.false_ne_true, Nat.zero_add]
theorem impl_slots_some (H : List ByteArray) (hl : H.length ≤ 1048576) : impl_NameHeap_usedSlots H = some (cntE H : Int) := by
  have hc : slices_Clone_sstring_string H = some H := by
    rw [slices_Clone_sstring_string_eq, sif_pos (b := room _ _) (room_ok (by omega))]
    cases H with
    | nil => rw [show (([] : List ByteArray).isEmpty) = true from rfl, sif_true, sboth_self]
    | cons x r => rfl
  rw [impl_NameHeap_usedSlots_eq, hc, sbind_some, slices_DeleteFunc_sstring_string_v_NameHeap_usedSlots_1_eq, impl_find_some H hl, sbind_some]
  rcases fe_some H 0 with ⟨h1, h2⟩ | ⟨o, h0, h1, h2, y, h3, h4⟩
  · rw [h1, kbeq rfl, sif_true, sbind_some, cntE, h2]
  · rw [Nat.zero_add] at h1
    rw [h1, kbne (by omega), sif_false, wi64_add1 (by omega)]
    obtain ⟨r, g1, g2⟩ := impl_del_loop H.length hl (H.length - (o + 1)) o (o + 1) H rfl (by omega) (by omega)
    rw [g1, sbind_some, g2]
    congr 2
    unfold cntE
    have e : H = H.take o ++ (y :: H.drop (o + 1)) := by
      have hlt : o < H.length := h0
      rw [List.getElem?_eq_getElem hlt, Option.some.injEq] at h3
      rw [← h3, ← List.drop_eq_getElem_cons hlt, List.take_append_drop]
    conv => rhs; rw [e]
    rw [List.filter_append, List.filter_cons, h4, if_neg Bool.false_ne_true, h2, List.length_append, List.length_take]; omega
def dlk (H : List ByteArray) : Nat → List Int → Option (List (ByteArray × Int × ByteArray))
  | 0, [] => some []
  | 0, _ :: _ => none
  | n + 1, t => if t = [] then some [] else match stepL H t with
    | none => none
    | some (l, r) => (dlk H n r).map (l :: ·)
def finL (H : List ByteArray) (l : List (ByteArray × Int × ByteArray)) : Bool × List (ByteArray × Int × ByteArray) := if (lkM l && ((cntE H : Int) == (l.length : Int))) = true then (true, l) else (false, [])
def dlR (H : List ByteArray) (out : List (ByteArray × Int × ByteArray)) : Option (List (ByteArray × Int × ByteArray)) → Bool × List (ByteArray × Int × ByteArray)
  | none => (false, [])
  | some l => finL H (out ++ l)
theorem spec_dl_loop (H : List ByteArray) (hp : hpM H = true) (hH : ∀ x ∈ H, x.size ≤ 1048576) (L : List Int) (hL : inB L) (hn : L.length ≤ 1048576) : ∀ (n i : Nat) (t : List Int) (out : List (ByteArray × Int × ByteArray)), L.drop i = t → i ≤ L.length → t.length ≤ n → out.length ≤ i → (∀ x ∈ out, lkOk x) →
    spec_DecodeLinks_l5 (toB L) H (toB L) (i : Int) false out = some (dlR H out (dlk H n t)) := by
  have hHl := hp_len hp
  have fin : ∀ (i : Nat) (out : List (ByteArray × Int × ByteArray)), L.drop i = [] → i ≤ L.length → out.length ≤ i → (∀ x ∈ out, lkOk x) → spec_DecodeLinks_l5 (toB L) H (toB L) (i : Int) false out = some (finL H out) := fun i out h hi ho hok => by
    have := List.drop_eq_nil_iff.1 h
    rw [spec_DecodeLinks_l5_eq, toB_size, sif_f (by omega), sif_false, spec_lk_some out (by omega) hok, sbind_some, spec_cnt_some H (by omega), sbind_some, finL]
    cases lkM out with
    | false => rfl
    | true =>
      rw [Bool.not_true, sif_false, Bool.true_and]
      by_cases h : (cntE H : Int) = (out.length : Int)
      · rw [kbeq h, sif_neg (by rw [bne_eq_false_iff_eq]; exact h), if_pos rfl]
      · rw [kbne h, sif_pos (by rw [bne_iff_ne]; exact h), if_neg Bool.false_ne_true]
  intro n
  induction n with
  | zero =>
    intro i t out h hi hl ho hok
    obtain rfl : t = [] := List.length_eq_zero_iff.1 (by omega)
    rw [fin i out h hi ho hok]
    show _ = some (finL H (out ++ []))
    rw [List.append_nil]
  | succ n ih =>
    intro i t out h hi hl ho hok
    rw [dlk]
    by_cases h0 : t = []
    · subst h0
      rw [fin i out h hi ho hok, if_pos rfl]
      show _ = some (finL H (out ++ []))
      rw [List.append_nil]
    · have hlen : t.length = L.length - i := by rw [← h, List.length_drop]
      have htB : inB t := by rw [← h]; exact inB_drop hL i
      rw [spec_step L hL hn H hp i t h h0 out (by omega), if_neg h0]
      cases hs : stepL H t with
      | none => rfl
      | some q =>
        obtain ⟨l, r⟩ := q
        obtain ⟨r1, r2, ⟨k, r3⟩, r4, r5⟩ := step_in htB hs
        have hdr : L.drop (L.length - r.length) = r := by
          have e : r = L.drop (i + k) := by rw [r3, ← h, List.drop_drop]
          have hl2 : r.length = L.length - (i + k) := by rw [e, List.length_drop]
          by_cases hk : i + k ≤ L.length
          · rw [show L.length - r.length = i + k by omega, ← e]
          · have hr0 : r = [] := List.length_eq_zero_iff.1 (by omega)
            rw [hr0]; simp
        show spec_DecodeLinks_l5 (toB L) H (toB L) ((L.length - r.length : Nat) : Int) false (out ++ [l]) = some (dlR H out ((dlk H n r).map (l :: ·)))
        rw [ih (L.length - r.length) r (out ++ [l]) hdr (by omega) (by omega) (by simp; omega) (fun x hx => by
          rcases List.mem_append.1 hx with hx | hx
          · exact hok x hx
          · rw [List.mem_singleton] at hx; subst hx; exact ⟨hH _ r4, by omega⟩)]
        cases dlk H n r with
        | none => rfl
        | some ls =>
          show some (finL H ((out ++ [l]) ++ ls)) = some (finL H (out ++ (l :: ls)))
          rw [List.append_assoc]; rfl
theorem impl_dl_loop (H : List ByteArray) (hp : hpM H = true) (hH : ∀ x ∈ H, x.size ≤ 1048576) : ∀ (n : Nat) (t : List Int) (out : List (ByteArray × Int × ByteArray)), inB t → t.length ≤ n → out.length + t.length ≤ 1048576 → (∀ x ∈ out, lkOk x) →
    impl_DecodeLinks_l5 H (toB t) false out = some (dlR H out (dlk H n t)) := by
  have hHl := hp_len hp
  have fin : ∀ (out : List (ByteArray × Int × ByteArray)), out.length ≤ 1048576 → (∀ x ∈ out, lkOk x) → impl_DecodeLinks_l5 H (toB []) false out = some (finL H out) := fun out ho hok => by
    rw [impl_DecodeLinks_l5_eq, show seq (toB []) (bs []) = true from seq_iff.2 rfl, Bool.not_true, sif_false, sif_false, impl_lk_some out (by omega) hok, sbind_some, impl_slots_some H (by omega), sbind_some, finL]
    cases lkM out with
    | false => rfl
    | true =>
      rw [Bool.not_true, sif_false, Bool.true_and]
      by_cases h : (cntE H : Int) = (out.length : Int)
      · rw [kbeq h, sif_neg (by rw [bne_eq_false_iff_eq]; exact h), if_pos rfl]
      · rw [kbne h, sif_pos (by rw [bne_iff_ne]; exact h), if_neg Bool.false_ne_true]
  intro n
  induction n with
  | zero =>
    intro t out ht hl ho hok
    obtain rfl : t = [] := List.length_eq_zero_iff.1 (by omega)
    rw [fin out (by omega) hok]
    show _ = some (finL H (out ++ []))
    rw [List.append_nil]
  | succ n ih =>
    intro t out ht hl ho hok
    rw [dlk]
    by_cases h0 : t = []
    · subst h0
      rw [fin out (by omega) hok, if_pos rfl]
      show _ = some (finL H (out ++ []))
      rw [List.append_nil]
    · have hpos : 0 < t.length := List.length_pos_iff.2 h0
      have hne : seq (toB t) (bs []) = false := by
        rw [show bs [] = toB [] from rfl, seq_toB ht (fun x hx => by cases hx)]
        exact decide_eq_false h0
      obtain ⟨res, e1, e2, e3⟩ := impl_link_some H hp t ht (by omega) h0
      rw [impl_DecodeLinks_l5_eq, hne, Bool.not_false, sif_true, sif_true, e1, sbind_some, sif_pos (room_ok (by omega)), if_neg h0]
      cases hs : stepL H t with
      | none => rw [e3 hs, impl_bad]; rfl
      | some q =>
        obtain ⟨l, r⟩ := q
        obtain ⟨r1, r2, _, r4, r5⟩ := step_in ht hs
        rw [e2 l r hs]
        show impl_DecodeLinks_l5 H (toB r) false (out ++ [l]) = some (dlR H out ((dlk H n r).map (l :: ·)))
        rw [ih r (out ++ [l]) r1 (by omega) (by simp; omega) (fun x hx => by
          rcases List.mem_append.1 hx with hx | hx
          · exact hok x hx
          · rw [List.mem_singleton] at hx; subst hx; exact ⟨hH _ r4, by omega⟩)]
        cases dlk H n r with
        | none => rfl
        | some ls =>
          show some (finL H ((out ++ [l]) ++ ls)) = some (finL H (out ++ (l :: ls)))
          rw [List.append_assoc]; rfl
def dlM (s : ByteArray) (H : List ByteArray) : Bool × List (ByteArray × Int × ByteArray) := if hpM H = true then dlR H [] (dlk H s.size (ofB s)) else (false, [])
theorem spec_dl_some (s : ByteArray) (hs : s.size ≤ 1048576) (H : List ByteArray) (hH : ∀ x ∈ H, x.size ≤ 1048576) : spec_DecodeLinks s H = some (dlM s H) := by
  rw [spec_DecodeLinks_eq, spec_hp_some, sbind_some, dlM]
  cases hp : hpM H with
  | false => rfl
  | true =>
    have := spec_dl_loop H hp hH (ofB s) (ofB_inB s) (by rw [ofB_len]; exact hs) s.size 0 (ofB s) [] rfl (by omega) (by rw [ofB_len]; exact Nat.le_refl _) (by simp) (fun x hx => by cases hx)
    rw [toB_ofB] at this
    rw [Bool.not_true, sif_false, if_pos rfl]
    exact this
theorem impl_dl_some (s : ByteArray) (hs : s.size ≤ 1048576) (H : List ByteArray) (hH : ∀ x ∈ H, x.size ≤ 1048576) : impl_DecodeLinks s H = some (dlM s H) := by
  rw [impl_DecodeLinks_eq, impl_hp_some H hH, sbind_some, dlM]
  cases hp : hpM H with
  | false => rfl
  | true =>
    have := impl_dl_loop H hp hH s.size (ofB s) [] (ofB_inB s) (by rw [ofB_len]; exact Nat.le_refl _) (by rw [ofB_len]; simp; omega) (fun x hx => by cases hx)
    rw [toB_ofB] at this
    rw [Bool.not_true, sif_false, if_pos rfl]
    exact this
theorem isNm_size {x : ByteArray} (h : isNm x = true) : x.size ≤ 12 := by
  unfold isNm at h
  simp only [Bool.and_eq_true, decide_eq_true_eq] at h
  exact h.1.2
theorem dlk_paths (H : List ByteArray) : ∀ (n : Nat) (t : List Int) (ls : List (ByteArray × Int × ByteArray)), inB t → dlk H n t = some ls → ∀ l ∈ ls, l.2.2.size ≤ 255
  | 0, [], ls, _, h => by cases h; intro l hl; cases hl
  | 0, _ :: _, ls, _, h => by cases h
  | n + 1, t, ls, ht, h => by
    rw [dlk] at h
    split at h
    · cases h; intro l hl; cases hl
    · cases hs : stepL H t with
      | none => rw [hs] at h; cases h
      | some q =>
        obtain ⟨l, r⟩ := q
        rw [hs] at h
        obtain ⟨r1, r2, _, r4, r5⟩ := step_in ht hs
        have h : (dlk H n r).map (l :: ·) = some ls := h
        obtain ⟨ls', h1, rfl⟩ := Option.map_eq_some_iff.1 h
        intro x hx
        rcases List.mem_cons.1 hx with rfl | hx
        · exact r5
        · exact dlk_paths H n r ls' r1 h1 x hx
theorem bulk_le {α : Type} (b : α → Nat) (K : Nat) : ∀ l : List α, (∀ x ∈ l, b x ≤ K) → bulkL b l ≤ l.length * (K + 1)
  | [], _ => by simp [bulkL]
  | x :: r, h => by
    have ih := bulk_le b K r (fun y hy => h y (by simp [hy]))
    have hx := h x (by simp)
    unfold bulkL at ih ⊢
    rw [List.map_cons, List.sum_cons, List.length_cons, Nat.add_mul]
    omega
theorem dl_bulk (s : ByteArray) (H : List ByteArray) : bulkL bulk_Link (dlM s H).2 ≤ 10000 ∧ (dlM s H).2.length ≤ 12 := by
  have key : (dlM s H).2 = [] ∨ ∃ ls, dlk H s.size (ofB s) = some ls ∧ lkM ls = true ∧ (dlM s H).2 = ls := by
    unfold dlM
    split
    · unfold dlR
      split
      · exact .inl rfl
      · next ls h =>
        unfold finL
        split
        · next h2 =>
          rw [Bool.and_eq_true] at h2
          exact .inr ⟨ls, h, h2.1, rfl⟩
        · exact .inl rfl
    · exact .inl rfl
  rcases key with h | ⟨ls, h1, h2, h3⟩
  · rw [h]; exact ⟨by simp [bulkL], by simp⟩
  · rw [h3]
    have hp := dlk_paths H s.size (ofB s) ls (ofB_inB s) h1
    have h2' := h2
    unfold lkM at h2'
    rw [Bool.and_eq_true, decide_eq_true_eq, List.all_eq_true] at h2'
    have hl : ls.length ≤ 12 := by have := h2'.2; omega
    have hb := bulk_le bulk_Link 300 ls (fun x hx => by
      obtain ⟨i, hi⟩ := List.mem_iff_getElem?.1 hx
      have hlt := (List.getElem?_eq_some_iff.1 hi).1
      have h4 := h2'.1 i (List.mem_range.2 hlt)
      unfold lkAt lk1 at h4
      simp only [Bool.and_eq_true] at h4
      have h5 := lkG hlt
      rw [hi, Option.some.injEq] at h5
      have := isNm_size h4.1.1
      rw [← h5] at this
      have := hp x hx
      unfold bulk_Link; omega)
    exact ⟨by omega, hl⟩
theorem markS_ex : ∀ (n i : Nat) (k : Int) (a : List ByteArray), a.length = i + n → 0 ≤ k → k + n ≤ 1000000000000 → a.length ≤ 1048576 → ∃ a', laws_markStringS_v_l2 k (i : Int) a = some (k + n, a')
  | 0, i, k, a, h, _, _, _ => ⟨a, by rw [laws_markStringS_v_l2_eq, sif_f (by omega)]; simp⟩
  | n + 1, i, k, a, h, h0, h1, hl => by
    rw [laws_markStringS_v_l2_eq, sif_t (by omega), mt_some h0 (by omega), sbind_some, sif_pos (lt3_ok (by omega) (by omega)), wi64_id (by omega) (by omega), wi64_add1 (by omega), Int.toNat_natCast]
    obtain ⟨a', h2⟩ := markS_ex n (i + 1) (k + 1) (a.set i (mt k)) (by rw [List.length_set]; omega) (by omega) (by omega) (by rw [List.length_set]; exact hl)
    exact ⟨a', by rw [h2]; congr 2; push_cast; omega⟩
theorem pure_FnExactDecodeLinks (aS : ByteArray) (aH_Names : List ByteArray) (O0 : aS.size ≤ 140737488351232) (O1 : aH_Names.length ≤ maxLen ∧ aH_Names.length * 16 ≤ 140737488351232 ∧ ∀ e_ ∈ aH_Names, e_.size ≤ 140737488351232) : laws_FnExactDecodeLinks aS aH_Names = some true := by
  rw [laws_FnExactDecodeLinks_eq]
  by_cases hlen : (aS.size : Int) > 1048576
  · rw [sif_t hlen]
  rw [sif_f hlen]
  have hsm : sm_NameHeap aH_Names := ⟨by have := O1.1; unfold maxLen at this; omega, fun x hx => by have := O1.2.2 x hx; omega⟩
  have h1 : laws_szNameHeap aH_Names 1048576 = _ := szNameHeap_some aH_Names 1048576 hsm (by decide) (by decide)
  rw [h1, sbind_some]
  by_cases hb : ((bulk_NameHeap aH_Names : Nat) : Int) ≤ 1048576
  · rw [if_pos hb, sif_f (by omega)]
    have hbl : bulkL ByteArray.size aH_Names ≤ 1048576 := by unfold bulk_NameHeap at hb; omega
    have hH : ∀ x ∈ aH_Names, x.size ≤ 1048576 := fun x hx => by have := bulk_mem (b := ByteArray.size) hx; omega
    have hHl : aH_Names.length ≤ 1048576 := by have := bulk_len ByteArray.size aH_Names; omega
    obtain ⟨g1, g2⟩ := dl_bulk aS aH_Names
    have t0 : laws_toNameHeap aH_Names = some aH_Names := toNameHeap_some aH_Names (by omega)
    have q0 : laws_eqNameHeap aH_Names aH_Names = some true := eqNameHeap_refl aH_Names (by omega)
    have q1 : laws_eqLinkS (dlM aS aH_Names).2 (dlM aS aH_Names).2 = some true := eqLinkS_refl _ (by omega)
    have e1 := spec_dl_some aS (by omega) aH_Names hH
    have e2 := impl_dl_some aS (by omega) aH_Names hH
    obtain ⟨a', hm⟩ := markS_ex aH_Names.length 0 1 aH_Names (by omega) (by decide) (by omega) hHl
    have hm' : laws_markNameHeap_v 1 aH_Names = some (1 + (aH_Names.length : Int), a') := by
      rw [laws_markNameHeap_v_eq, laws_markStringS_v_eq, show laws_markStringS_v_l2 1 0 aH_Names = _ from hm, sbind_some]
    have hc : cntL (fun _ => 3) (dlM aS aH_Names).2 ≤ 36 := by
      have := cntL_le (cnt := fun _ : ByteArray × Int × ByteArray => 3) (c := 3) (l := (dlM aS aH_Names).2) (fun _ _ => Nat.le_refl _)
      omega
    have m1 := markLinkS_some (dlM aS aH_Names).2 1 (by decide) (by omega) (by omega)
    have m2 := heldLinkS_some (dlM aS aH_Names).2 1 (by decide) (by omega) (by omega)
    rw [t0, sbind_some, e1, sbind_some, sbind_some, e2, sbind_some, q1, sbind_some, Bool.not_true, sif_false, beq_self_eq_true, Bool.not_true, sif_false, sbind_some, q0, sbind_some, Bool.not_true, sif_false, hm', sbind_some, sif_f (by dsimp only; omega), sbind_some, Bool.not_true, sif_false, sif_false, m1, sbind_some]
    dsimp only
    rw [m2, sbind_some, sif_f (by omega), bne_self_eq_false, sif_false, sbind_some, e2, sbind_some, q1, sbind_some, Bool.not_true, sif_false, beq_self_eq_true, Bool.not_true, sif_false, sbind_some, sif_f (by omega), bne_self_eq_false, sif_false]
  · rw [if_neg hb]; rfl
end Go.Ve.X
