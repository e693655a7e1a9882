/- A verified evaluator for translated Go functions, part 3: what one function answers, over abstract values, and the proof that the call answers so. No condition: every law is proved here. -/
import Derived.ChangeArms
import Derived.DataReads
import Derived.SizedLaws
import Derived.ChangeShapes
import Derived.Laws.StructEq
import Derived.Test.YtoelenagbkbmpaaVeB
namespace Go.Ve
open Go.RowKit
set_option linter.unusedVariables false
set_option linter.unusedSimpArgs false

/-- all that is old counts as frozen -/
def oldB (w : World) (k : Nat) : Prop := k < w.heap.size
def Opv (P : Program) (S : Sig) (n : Nat) (t : TypeId) (ss : List TS) (ok : TL S.K ss → Prop) : Prop :=
  ∀ (H : Type) (enc : TypeId × Value → H) (w : World) (base : Nat) (sp : Nat → Bool) (held : Bool) (fuel : Nat) (cs : List Value) (x : DataW H × List MemPlace), fuel ≤ n →
    DataW.trod enc P w base sp held fuel t cs = some x → (DataW.weights P t x.1).all (· ≤ reachBytes) = true → ∃ a, All2 (TRep S (oldB w) w) (encL ss a) cs ∧ ok a

section
variable {P : Program} {S : Sig} {n : Nat} {t : TypeId}
theorem opv_int {k : IntKind} (ht : P.underlying t = some (.int k)) : Opv P S n t [.int k] (fun a => (Lit.int k a).wf = true) := by
  intro H enc w base sp held fuel cs x _ h _
  obtain ⟨v, rfl, _, hw⟩ := DataW.trod_int ht h
  exact ⟨v, .cons (.int k v) .nil, hw⟩
theorem opv_bool (ht : P.underlying t = some .bool) : Opv P S n t [.bool] (fun _ => True) := by
  intro H enc w base sp held fuel cs x _ h _
  obtain ⟨v, rfl, _⟩ := DataW.trod_bool ht h
  exact ⟨v, .cons (.bool v) .nil, trivial⟩
theorem opv_str (ht : P.underlying t = some .string) : Opv P S n t [.str] (fun s => s.size ≤ 140737488351232) := by
  intro H enc w base sp held fuel cs x _ h hw
  obtain ⟨s, rfl, rfl, _⟩ := DataW.trod_string ht h
  refine ⟨s, .cons (.str s) .nil, ?_⟩
  simp only [DataW.weights, List.all_cons, List.all_nil, Bool.and_true, Array.length_toList] at hw
  exact of_decide_eq_true hw
theorem opv_choose {α : Type} {Q : Nat → α → Prop} : ∀ m : Nat, (∀ i, i < m → ∃ b, Q i b) → ∃ xs : List α, xs.length = m ∧ ∀ i b, xs[i]? = some b → Q i b
  | 0, _ => ⟨[], rfl, fun i b h => by simp at h⟩
  | m + 1, h => by
    obtain ⟨xs, hl, hx⟩ := opv_choose m (fun i hi => h i (by omega))
    obtain ⟨b, hb⟩ := h m (by omega)
    refine ⟨xs ++ [b], by simp [hl], fun i c hc => ?_⟩
    by_cases hi : i < xs.length
    · rw [List.getElem?_append_left hi] at hc
      exact hx i c hc
    · have hi2 : i = m := by
        have := (List.getElem?_eq_some_iff.1 hc).1
        rw [List.length_append, List.length_singleton] at this
        omega
      subst hi2
      rw [← hl] at hc
      simp at hc
      rw [← hc]
      exact hb
theorem opv_weights {H : Type} {e : TypeId} : ∀ (l : List (DataW H)), (DataW.weightsAll P e l).all (· ≤ reachBytes) = true → ∀ d ∈ l, (DataW.weights P e d).all (· ≤ reachBytes) = true
  | [], _, d, hd => by cases hd
  | a :: r, h, d, hd => by
    simp only [DataW.weightsAll, List.all_append, Bool.and_eq_true] at h
    rcases List.mem_cons.1 hd with rfl | hd
    · exact h.1
    · exact opv_weights r h.2 d hd
theorem opv_add (a : Addr) (m j : Nat) : (a.add m).add j = a.add (m + j) := by
  unfold Addr.add
  by_cases hj : j = 0
  · subst hj; simp
  · by_cases hm : m = 0
    · subst hm; simp
    · simp [hj, hm, Nat.add_assoc]
theorem opv_slice {e : TypeId} {ok : TL S.K (S.sh e) → Prop} (B : Nat) (ht : P.underlying t = some (.slice e)) (hc : P.cellsOf e = S.sz e) (hpos : 0 < S.sz e) (hB : P.bytesOf e = B) (he : Opv P S n e (S.sh e) ok) :
    Opv P S n t [.arr e] (fun xs => xs.length ≤ maxLen ∧ xs.length * B ≤ 140737488351232 ∧ ∀ x ∈ xs, ok (S.toT e x)) := by
  intro H enc w base sp held fuel cs x hfu h hw
  rcases DataW.trod_slice ht h with ⟨rfl, rfl⟩ | ⟨a, len, cap, elems, rest, m, rfl, rfl, rfl, hb, hl, hm, hlen, hel, _, _⟩
  · exact ⟨([] : List (S.K e)), .cons (.arr e [] none 0 (fun _ _ => undef) (Nat.le_refl _) (fun _ => rfl) (fun ad h => by cases h) (fun i x j c h => by simp at h) (fun i x j c h => by simp at h)) .nil, by simp, by simp, by simp⟩
  · simp only [DataW.weights, ht, List.all_cons, List.all_append, Bool.and_eq_true, List.length_map, hB] at hw
    obtain ⟨hw1, hw2, _⟩ := hw
    have hw1' : (elems.length + rest.length) * B ≤ 140737488351232 := of_decide_eq_true hw1
    obtain ⟨xs, hxl, hx⟩ := opv_choose (α := S.K e) (Q := fun i b => (∃ c : List Value, All2 (TRep S (oldB w) w) (S.enc e b) c ∧ ∀ j u, c[j]? = some u → w.cell? (a.add (i * S.sz e + j)) = some u) ∧ ok (S.toT e b)) len (fun i hi => by
      have hk := hel i hi
      rw [hc] at hk
      have hi' : i < elems.length := by omega
      rw [List.getElem?_eq_getElem hi'] at hk
      obtain ⟨c, h1, h2⟩ := Option.bind_eq_some_iff.1 hk
      obtain ⟨b, hb1, hb2⟩ := he H enc w base sp held m c _ (by omega) h2 (opv_weights _ hw2 _ (List.mem_map.2 ⟨_, List.getElem_mem hi', rfl⟩))
      refine ⟨S.ofT e b, ⟨c, by unfold Sig.enc; rw [S.law]; exact hb1, fun j u hu => ?_⟩, by rw [S.law]; exact hb2⟩
      obtain ⟨_, hcl, hcell⟩ := World.cells?_some h1
      have hj : j < S.sz e := by rw [← hcl]; exact (List.getElem?_eq_some_iff.1 hu).1
      rw [← opv_add, hcell j (by omega), hu])
    have hle : elems.length * B ≤ (elems.length + rest.length) * B := Nat.mul_le_mul_right _ (by omega)
    -- the cells of an element
    have hcellz : ∀ (i : Nat) (x : S.K e) (j : Nat) (c : Cell S.K), xs[i]? = some x → (S.enc e x)[j]? = some c → ∃ u, w.cell? (a.add (i * S.sz e + j)) = some u ∧ TRep S (oldB w) w c u := fun i x j c hi hj => by
      obtain ⟨⟨cv, hall, hcv⟩, _⟩ := hx i x hi
      obtain ⟨u, h1, h2⟩ := hall.get hj
      exact ⟨u, hcv j u h1, h2⟩
    have hsp : xs ≠ [] → a.spot = none ∧ a.block < w.heap.size := fun hne => by
      obtain ⟨x0, hx0⟩ : ∃ x0, xs[0]? = some x0 := by
        cases xs with
        | nil => exact absurd rfl hne
        | cons x l => exact ⟨x, rfl⟩
      have hlen' : (S.enc e x0).length = S.sz e := S.enc_length e x0
      obtain ⟨u, hu, _⟩ := hcellz 0 x0 0 ((S.enc e x0)[0]'(by omega)) hx0 (List.getElem?_eq_getElem (by omega))
      rw [Nat.zero_mul, Nat.add_zero] at hu
      have e0 : a.add 0 = a := by unfold Addr.add; simp
      rw [e0] at hu
      have hs := World.cell?_spot hu
      exact ⟨hs, World.block_lt_of_cell? w a hu⟩
    have hadd : xs ≠ [] → ∀ m, a.add m = ⟨a.block, a.off + m, none⟩ := fun hne m => by
      have := (hsp hne).1
      obtain ⟨b, o, s⟩ := a
      simp only at this
      subst this
      unfold Addr.add
      split <;> simp_all
    refine ⟨xs, .cons ?_ .nil, ?_, ?_, fun p hp => ?_⟩
    · have := TRep.arr (S := S) (Fz := oldB w) (w := w) e xs (some a) cap (fun i j => (w.cell? (a.add (i * S.sz e + j))).getD undef) (by omega) (fun h => by cases h) (fun ad had hne => by cases had; exact hsp hne)
        (fun i x j c hi hj ad had => by
          cases had
          have hne : xs ≠ [] := by rintro rfl; simp at hi
          obtain ⟨u, hu, _⟩ := hcellz i x j c hi hj
          rw [hadd hne] at hu
          simp only [hadd hne, hu, Option.getD_some])
        (fun i x j c hi hj => by
          obtain ⟨u, hu, hr⟩ := hcellz i x j c hi hj
          rw [hu]; exact hr)
      rw [hxl] at this
      exact this
    · simp only [maxLen] at hm ⊢; omega
    · rw [hxl, ← hlen]; omega
    · obtain ⟨i, hi, rfl⟩ := List.getElem_of_mem hp
      exact (hx i _ (List.getElem?_eq_getElem hi)).2

def joinTL {K : Nat → Type} : (l r : List TS) → TL K l → TL K r → TL K (l ++ r)
  | [], r, _, b => b
  | [a], [], x, _ => x
  | [a], b :: r, x, y => (x, y)
  | a :: b :: l, r, x, y => (x.1, joinTL (b :: l) r x.2 y)
theorem encL_join {K : Nat → Type} : ∀ (l r : List TS) (x : TL K l) (y : TL K r), encL (l ++ r) (joinTL l r x y) = encL l x ++ encL r y
  | [], r, _, b => rfl
  | [a], [], x, _ => rfl
  | [a], b :: r, x, y => rfl
  | a :: b :: l, r, x, y => by
    have := encL_join (b :: l) r x.2 y
    show a.enc x.1 :: encL ((b :: l) ++ r) _ = a.enc x.1 :: (encL (b :: l) x.2 ++ encL r y)
    rw [← this]
    rfl
theorem all2_append {α β : Type} {R : α → β → Prop} {l l' : List α} {m m' : List β} (h : All2 R l m) (h' : All2 R l' m') : All2 R (l ++ l') (m ++ m') := by
  induction h with
  | nil => exact h'
  | cons a _ ih => exact .cons a ih
/-- The fields of a struct from one on: their cells are those behind 'off'; the struct has L cells. -/
def OpvF (P : Program) (S : Sig) (n L off : Nat) (fs : List Field) (ss : List TS) (ok : TL S.K ss → Prop) : Prop :=
  ∀ (H : Type) (enc : TypeId × Value → H) (w : World) (base : Nat) (sp : Nat → Bool) (held : Bool) (fuel : Nat) (cs : List Value) (xs : List (DataW H × List MemPlace)), fuel ≤ n → cs.length = L → xs.length = fs.length →
    (∀ (i : Nat) (f : Field), fs[i]? = some f → DataW.trod enc P w base sp held fuel f.type ((cs.drop f.offset).take (P.cellsOf f.type)) = xs[i]?) →
    (DataW.weightsEach P (fs.map (·.type)) (xs.map (·.1))).all (· ≤ reachBytes) = true → ∃ a, All2 (TRep S (oldB w) w) (encL ss a) (cs.drop off) ∧ ok a
theorem opvF_one {L off : Nat} {f : Field} {ss : List TS} {ok : TL S.K ss → Prop} (ho : f.offset = off) (hL : off + P.cellsOf f.type = L) (h : Opv P S n f.type ss ok) : OpvF P S n L off [f] ss ok := by
  intro H enc w base sp held fuel cs xs hfu hcs hxs hf hw
  match xs, hxs with
  | [x], _ =>
    have h0 := hf 0 f rfl
    rw [ho, List.take_of_length_le (by rw [List.length_drop]; omega)] at h0
    simp only [List.map_cons, List.map_nil, DataW.weightsEach, List.append_nil] at hw
    exact h H enc w base sp held fuel _ x hfu (by simpa using h0) hw
theorem opvF_cons {L off off' : Nat} {f : Field} {fs : List Field} {ss ss' : List TS} {ok : TL S.K ss → Prop} {ok' : TL S.K ss' → Prop} (ho : f.offset = off) (ho' : off + P.cellsOf f.type = off') (h : Opv P S n f.type ss ok) (h' : OpvF P S n L off' fs ss' ok') :
    OpvF P S n L off (f :: fs) (ss ++ ss') (fun p => ∃ a b, p = joinTL ss ss' a b ∧ ok a ∧ ok' b) := by
  intro H enc w base sp held fuel cs xs hfu hcs hxs hf hw
  match xs, hxs with
  | x :: xs, hxs =>
    have h0 := hf 0 f rfl
    rw [ho] at h0
    simp only [List.map_cons, DataW.weightsEach, List.all_append, Bool.and_eq_true] at hw
    obtain ⟨a, ha, oa⟩ := h H enc w base sp held fuel _ x hfu (by simpa using h0) hw.1
    obtain ⟨b, hb, ob⟩ := h' H enc w base sp held fuel cs xs hfu hcs (by simpa using hxs) (fun i g hg => by simpa using hf (i + 1) g (by simpa using hg)) hw.2
    refine ⟨joinTL ss ss' a b, ?_, a, b, rfl, oa, ob⟩
    rw [encL_join]
    have : cs.drop off = (cs.drop off).take (P.cellsOf f.type) ++ cs.drop off' := by rw [← ho', ← List.drop_drop, List.take_append_drop]
    rw [this]
    exact all2_append ha hb
theorem opv_struct {L : Nat} {fs : Array Field} {ss : List TS} {ok : TL S.K ss → Prop} (ht : P.underlying t = some (.struct fs)) (hL : P.cellsOf t = L) (h : OpvF P S n L 0 fs.toList ss ok) : Opv P S (n + 1) t ss ok := by
  intro H enc w base sp held fuel cs x hfu hx hw
  obtain ⟨xs, m, rfl, rfl, hl, hlen, hf⟩ := DataW.trod_struct ht hx
  simp only [DataW.weights, ht] at hw
  have := h H enc w base sp held m cs xs (by omega) (by omega) (by simpa using hlen) (fun i f hi => hf i f (by simpa using hi)) hw
  simpa using this
theorem opv_mono {m : Nat} {ss : List TS} {ok : TL S.K ss → Prop} (h : Opv P S n t ss ok) (hm : m ≤ n) : Opv P S m t ss ok := fun H enc w base sp held fuel cs x hfu => h H enc w base sp held fuel cs x (by omega)
theorem opv_imp {ss : List TS} {ok ok' : TL S.K ss → Prop} (h : Opv P S n t ss ok) (hi : ∀ a, ok a → ok' a) : Opv P S n t ss ok' := fun H enc w base sp held fuel cs x hfu hx hw => by
  obtain ⟨a, ha, oa⟩ := h H enc w base sp held fuel cs x hfu hx hw
  exact ⟨a, ha, hi a oa⟩
/-- Off 'Trod', with the weights of all that came in. -/
theorem opv_use {ss : List TS} {ok : TL S.K ss → Prop} (h : ∀ n, Opv P S n t ss ok) {H : Type} {enc : TypeId × Value → H} {w : World} {base : Nat} {sp : Nat → Bool} {held : Bool} {v : Value} {D : DataW H} {ps : List MemPlace} (hd : DataW.Trod enc P w base sp held t v D ps)
    {ts : List TypeId} {ds : List (DataW H)} (hsz : (DataW.weightsEach P ts ds).all (· ≤ reachBytes) = true) {j : Nat} (htj : ts[j]? = some t) (hdj : ds[j]? = some D) : ∃ a, All2 (TRep S (oldB w) w) (encL ss a) v.cells.toList ∧ ok a := by
  obtain ⟨fuel, hf⟩ := hd
  refine h fuel H enc w base sp held fuel _ _ (Nat.le_refl _) hf ?_
  exact List.all_eq_true.2 fun m hm => List.all_eq_true.1 hsz m (DataW.weights_mem_each htj hdj m hm)
theorem trod_old {H : Type} {enc : TypeId × Value → H} {w : World} {base : Nat} {sp : Nat → Bool} {held : Bool} {v : Value} {D : DataW H} {ps : List MemPlace} (hd : DataW.Trod enc P w base sp held t v D ps) : ∀ x ∈ ps, x.block < w.heap.size := by
  obtain ⟨m, hm⟩ := hd
  exact DataW.trod_lt m _ _ _ hm
/-- what nobody touched lies below -/
theorem Chg.below {O : Nat → Nat → Prop} {w w' : World} (h : Chg O w w') (hO : ∀ k o, ¬ O k o) : Below w.heap.size w w' :=
  ⟨h.os, h.tape, h.output, h.size, fun k hk => h.blk k hk (hO k)⟩
end
/-- a call whose data came in and go out as data -/
theorem call_pure {P : Program} {E : Env} {f m : Nat} {d : TL E.S.K (jobT E.ann ⟨f, m, none⟩)} {r : TL E.S.K (outT E.ann f m)} (hC : CallOk P E f m d r) {A : FnAnn} (hA : E.ann f m = some A) {xs : List (Nat × FV E.S.K)}
    (hx : buildAll (fun i => (i, 0)) A.inL (encL _ d) = some (xs, [])) {vs : Array Value} {w : World} (hs : ∀ t x, (t, x) ∈ xs → FRep E.S (fun _ => False) (fun _ => ⟨none, 0, 0, 0⟩) (oldB w) w x (vs.getD t undef)) :
    Calls P f vs w fun e w' => ∃ v res blks φ Fz, e = .returned v ∧ Below w.heap.size w w' ∧ buildAll (fun i => (i, 0)) A.outL (encL (outT E.ann f m) r) = some (res, blks) ∧ SRep E.S (fun i => i < A.outL.blocks.length) φ Fz w' (retSV res) v := by
  obtain ⟨xs', blks0, hx', hgo⟩ := hC A hA
  rw [hx] at hx'
  cases hx'
  have hno : ∀ (k o : Nat), ¬ OC (fun _ => (⟨none, 0, 0, 0⟩ : Loc)) (heapOf (K := E.S.K) 0 []) k o := fun k o ⟨id, b, h, _⟩ => by simp [heapOf, get] at h
  refine (hgo (fun _ => ⟨none, 0, 0, 0⟩) (oldB w) w vs ⟨fun id b h => by simp [heapOf, get] at h, fun id b h => by simp [heapOf, get] at h, fun id id' b b' h => by simp [heapOf, get] at h, fun id b h => by simp [heapOf, get] at h, fun k h => h⟩ (fun t v hv => ?_)).mono ?_
  · obtain ⟨x, h1, rfl⟩ := slotsOf_get hv
    exact FRep.keep (Chg.refl (fun _ _ => False) w) (fun _ _ h => h.elim) (fun _ h => h) (fun _ h => h.elim) (fun _ h => h.elim) (hs t x h1)
  · rintro e w' ⟨v, rfl, res, blks, φ', Fz', h1, _, h3, _, _, _, _, _, h8⟩
    exact ⟨v, res, blks, φ', Fz', rfl, h8.below hno, h1, h3⟩
end Go.Ve

namespace Go.Ve
open Go.RowKit
set_option linter.unusedVariables false
set_option linter.unusedSimpArgs false

def tsT (P : Program) (t : TypeId) : Option TS :=
  match P.underlying t with
  | some (.int k) => some (.int k)
  | some .bool => some .bool
  | some .string => some .str
  | _ => none
def sameTS : TS → TS → Bool
  | .int k, .int k' => beqKind k k'
  | .bool, .bool | .str, .str => true
  | _, _ => false
theorem sameTS_eq {a b : TS} (h : sameTS a b = true) : a = b := by
  cases a <;> cases b <;> first | rfl | (cases h; done) | (rename_i k k'; cases k <;> cases k' <;> first | rfl | cases h)
def flatFs (P : Program) : Nat → List Field → List TS → Bool
  | _, [], [] => true
  | k, f :: l, t :: ts => !(f.name == "_") && Nat.beq f.offset k && (match tsT P f.type with | some t' => sameTS t' t | none => false) && flatFs P (k + 1) l ts
  | _, _, _ => false
theorem part_basic {P : Program} {t : TypeId} {s : TS} {xs : Array Value} {k : Nat} {v : Value} {w : World} (h : tsT P t = some s) (hx : xs[k]? = some v) : (Go.part t xs k).run P w = .ok v w := by
  unfold tsT at h
  split at h <;> first | (next hu => simp [Go.part, isAgg, run_underlying hu, hx]) | cases h
theorem eq_basic {P : Program} {t : TypeId} {s : TS} {a b : Value} {r : Bool} {w : World} {d : Nat} (h : tsT P t = some s) (ha : tyV s a) (hb : tyV s b) (he : eqV a b = some r) : (Op.equalIn (d + 1) t a b).run P w = .ok r w := by
  unfold tsT at h
  split at h
  · next k hu =>
    cases h
    obtain ⟨x, rfl⟩ := ha
    obtain ⟨y, rfl⟩ := hb
    have hk : beqKind k k = true := by cases k <;> rfl
    simp only [eqV, hk, cond_true, Option.some.injEq] at he
    simp [Op.equalIn, run_underlying hu, he]
  · next hu =>
    cases h
    obtain ⟨x, rfl⟩ := ha
    obtain ⟨y, rfl⟩ := hb
    simp only [eqV, Option.some.injEq] at he
    simp [Op.equalIn, run_underlying hu, he]
  · next hu =>
    cases h
    obtain ⟨x, rfl⟩ := ha
    obtain ⟨y, rfl⟩ := hb
    simp only [eqV, Option.some.injEq, seq] at he
    simp [Op.equalIn, run_underlying hu, he, beq_toListBytes]
  · cases h
theorem eq_fields {P : Program} {w : World} {d : Nat} {xs ys : Array Value} : ∀ {fs : List Field} {ts : List TS} {k : Nat} {r : Bool}, flatFs P k fs ts = true → fs ≠ [] → All2 tyV ts (xs.toList.drop k) → All2 tyV ts (ys.toList.drop k) → eqVs (xs.toList.drop k) (ys.toList.drop k) = some r → (Op.eqFields (d + 1) xs ys fs).run P w = .ok r w
  | [], _, _, _, _, h, _, _, _ => absurd rfl h
  | f :: fs, [], k, r, hf, _, _, _, _ => by cases hf
  | f :: fs, t :: ts, k, r, hf, _, hxt, hyt, he => by
    simp only [flatFs, Bool.and_eq_true, Bool.not_eq_true'] at hf
    obtain ⟨⟨⟨h1, h2⟩, h3⟩, h4⟩ := hf
    have hn : f.name ≠ "_" := by simpa using h1
    have ho : f.offset = k := Nat.eq_of_beq_eq_true h2
    obtain ⟨t', ht', h3⟩ : ∃ t', tsT P f.type = some t' ∧ sameTS t' t = true := by
      cases hq : tsT P f.type with
      | none => rw [hq] at h3; cases h3
      | some t' => rw [hq] at h3; exact ⟨t', rfl, h3⟩
    obtain rfl := sameTS_eq h3
    cases hx : xs.toList.drop k with
    | nil => rw [hx] at hxt; cases hxt
    | cons a as =>
      cases hy : ys.toList.drop k with
      | nil => rw [hy] at hyt; cases hyt
      | cons b bs =>
        have ha : xs[k]? = some a := by rw [← Array.getElem?_toList, ← List.head?_drop, hx]; rfl
        have hb : ys[k]? = some b := by rw [← Array.getElem?_toList, ← List.head?_drop, hy]; rfl
        have hxd : xs.toList.drop (k + 1) = as := by have := congrArg (List.drop 1) hx; simpa [List.drop_drop] using this
        have hyd : ys.toList.drop (k + 1) = bs := by have := congrArg (List.drop 1) hy; simpa [List.drop_drop] using this
        rw [hx] at hxt he
        rw [hy] at hyt he
        cases hxt with
        | cons ta tas =>
          cases hyt with
          | cons tb tbs =>
            rw [Op.eqFields, if_pos hn, ho]
            simp only [Sem.run_bind, part_basic ht' ha, part_basic ht' hb, Result.andThen_ok]
            cases fs with
            | nil =>
              cases ts with
              | cons _ _ => cases h4
              | nil =>
                cases tas
                cases tbs
                have he' : eqV a b = some r := he
                rw [eq_basic ht' ta tb he']
                simp only [Result.andThen_ok]
                cases r <;> simp [Op.eqFields]
            | cons f2 fs2 =>
              cases as with
              | nil =>
                cases tas
                cases h4
              | cons a2 as2 =>
                cases bs with
                | nil => cases tbs; cases h4
                | cons b2 bs2 =>
                  have he' : (match eqV a b, eqVs (a2 :: as2) (b2 :: bs2) with | some x, some y => some (x && y) | _, _ => none) = some r := he
                  split at he'
                  · next x y hx2 hy2 =>
                    cases he'
                    rw [eq_basic ht' ta tb hx2]
                    simp only [Result.andThen_ok]
                    have ih := eq_fields (P := P) (w := w) (d := d) (xs := xs) (ys := ys) (fs := f2 :: fs2) (ts := ts) (k := k + 1) (r := y) h4 (by simp) (by rw [hxd]; exact tas) (by rw [hyd]; exact tbs) (by rw [hxd, hyd]; exact hy2)
                    cases x with
                    | false => simp
                    | true => simpa using ih
                  · cases he'
/-- a struct of numbers, bools and texts -/
def eqsB (P : Program) (t : TypeId) (fs : List Field) (ts : List TS) : Bool := !(P.eqGuardType P.depth t) && (!(P.stoodInHeld t) && (flatFs P 0 fs ts && !fs.isEmpty))
theorem eqsOk_flat {P : Program} {t : TypeId} {fs : Array Field} {ts : List TS} (ht : P.underlying t = some (.struct fs)) (h : eqsB P t fs.toList ts = true) : EqsOk P t ts := by
  simp only [eqsB, Bool.and_eq_true, Bool.not_eq_true'] at h
  obtain ⟨h1, h2, h3, h4⟩ := h
  refine ⟨h1, fun xs ys b w hx hy he => ?_⟩
  have hf : P.fieldsOf t = fs := by simp [Program.fieldsOf, ht]
  rw [show Op.equal t = Op.equalIn (9999 + 1) t from rfl, run_equalIn_struct (P := P) w 9999 t _ _ (by rw [hf]; exact ht) h2, hf]
  exact eq_fields (d := 9998) (ts := ts) (k := 0) h3 (by intro e; rw [e] at h4; cases h4) (by simpa using hx) (by simpa using hy) (by simpa using he)
theorem eqs_nil {P : Program} : ∀ t ts, get ([] : List (Nat × List TS)) t = some ts → EqsOk P t ts := fun t ts h => by cases h
theorem eqs_cons {P : Program} {a : Nat} {x : List TS} {l : List (Nat × List TS)} (h : EqsOk P a x) (hl : ∀ t ts, get l t = some ts → EqsOk P t ts) : ∀ t ts, get ((a, x) :: l) t = some ts → EqsOk P t ts := fun t ts ht => by
  rw [get_cons] at ht
  split at ht
  · next e => cases ht; subst e; exact h
  · exact hl t ts ht
end Go.Ve

namespace Go.Ve
/-- bytes of a text -/
def bs (l : List Nat) : ByteArray := ⟨(l.map UInt8.ofNat).toArray⟩
def wi64 (n : Int) : Int := IntKind.i64.wrap n
def wi32 (n : Int) : Int := IntKind.i32.wrap n
def wi16 (n : Int) : Int := IntKind.i16.wrap n
def wi8 (n : Int) : Int := IntKind.i8.wrap n
def wu64 (n : Int) : Int := IntKind.u64.wrap n
def wu32 (n : Int) : Int := IntKind.u32.wrap n
def wu16 (n : Int) : Int := IntKind.u16.wrap n
def wu8 (n : Int) : Int := IntKind.u8.wrap n
theorem sem_eq {E : Env} {f m : Nat} (h : E.ext f m = none) {d : TL E.S.K (jobT E.ann ⟨f, m, none⟩)} {x : Option (TL E.S.K (outT E.ann f m))} (hx : runJob E (Sem E) ⟨f, m, none⟩ d = x) : Sem E ⟨f, m, none⟩ d = x := (Sem_run E h d).trans hx
theorem seml_eq {E : Env} {f m l : Nat} {d : TL E.S.K (jobT E.ann ⟨f, m, some l⟩)} {x : Option (TL E.S.K (outT E.ann f m))} (hx : runJob E (Sem E) ⟨f, m, some l⟩ d = x) : Sem E ⟨f, m, some l⟩ d = x := (Sem_label E f m l d).trans hx
end Go.Ve
namespace Go.Ve
/-- what reads as data is what a cell of data says -/
theorem crep_data {S : Sig} {D : Nat → Prop} {φ : Nat → Loc} {Fz : Nat → Prop} {w : World} {c : Cell S.K} {v : Value} (h : TRep S Fz w c v) : CRep S D φ Fz w c v := by
  cases c <;> first | exact h | cases h
theorem creps_data {S : Sig} {D : Nat → Prop} {φ : Nat → Loc} {Fz : Nat → Prop} {w : World} {cs : List (Cell S.K)} {vs : List Value} (h : All2 (TRep S Fz w) cs vs) : All2 (CRep S D φ Fz w) cs vs := forall₂_imp (fun _ _ h => crep_data h) h
theorem crep_data1 {S : Sig} {D : Nat → Prop} {φ : Nat → Loc} {Fz : Nat → Prop} {w : World} {c : Cell S.K} {v : Value} (h : All2 (TRep S Fz w) [c] [v]) : CRep S D φ Fz w c v := by
  cases h with
  | cons h _ => exact crep_data h
end Go.Ve

namespace Go.Ve
set_option linter.unusedVariables false
set_option linter.unusedSimpArgs false

@[simp] theorem sif_true {α : Type} (x y : Option α) : sif true x y = x := rfl
@[simp] theorem sif_false {α : Type} (x y : Option α) : sif false x y = y := rfl
@[simp] theorem sif_same {α : Type} (b : Bool) (x : Option α) : sif b x x = x := by cases b <;> rfl
theorem sif_pos {α : Type} {b : Bool} {x y : Option α} (h : b = true) : sif b x y = x := by rw [h]; rfl
theorem sif_neg {α : Type} {b : Bool} {x y : Option α} (h : b = false) : sif b x y = y := by rw [h]; rfl
theorem sif_ite {α : Type} (b : Bool) (x y : Option α) : sif b x y = if b = true then x else y := by cases b <;> rfl
theorem sif_t {α : Type} {p : Prop} [Decidable p] {x y : Option α} (h : p) : sif (decide p) x y = x := by rw [decide_eq_true h]; rfl
theorem sif_f {α : Type} {p : Prop} [Decidable p] {x y : Option α} (h : ¬ p) : sif (decide p) x y = y := by rw [decide_eq_false h]; rfl
theorem sif_not {α : Type} (b : Bool) (x y : Option α) : sif (!b) x y = sif b y x := by cases b <;> rfl
theorem sif_some {α : Type} (b : Bool) (x y : α) : sif b (some x) (some y) = some (if b = true then x else y) := by cases b <;> rfl
theorem sif_bool (b c : Bool) : sif b (some c) (some false) = some (b && c) := by cases b <;> rfl
theorem sif_bool' (b c : Bool) : sif b (some false) (some c) = some (!b && c) := by cases b <;> rfl
theorem sif_bool2 (b c : Bool) : sif b (some true) (some c) = some (b || c) := by cases b <;> rfl
@[simp] theorem sbind_some {α β : Type} (x : α) (f : α → Option β) : sbind (some x) f = f x := rfl
@[simp] theorem sbind_none {α β : Type} (f : α → Option β) : sbind none f = none := rfl
theorem sbind_eq {α β : Type} {o : Option α} {x : α} (h : o = some x) (f : α → Option β) : sbind o f = f x := by rw [h]; rfl
@[simp] theorem sboth_self {α : Type} (x : Option α) : sboth x x = x := by unfold sboth; rw [if_pos rfl]

/-! ### numbers -/
theorem wi64_def (n : Int) : wi64 n = if 9223372036854775808 ≤ n % 18446744073709551616 then n % 18446744073709551616 - 18446744073709551616 else n % 18446744073709551616 := by
  have : wi64 n = if (true && decide (n % (2 ^ 64) ≥ 2 ^ (64 - 1))) = true then n % (2 ^ 64) - 2 ^ 64 else n % (2 ^ 64) := rfl
  rw [this, show (2 : Int) ^ 64 = 18446744073709551616 from by decide, show (2 : Int) ^ (64 - 1) = 9223372036854775808 from by decide]
  simp
theorem wu64_def (n : Int) : wu64 n = n % 18446744073709551616 := by
  have : wu64 n = if (false && decide (n % (2 ^ 64) ≥ 2 ^ (64 - 1))) = true then n % (2 ^ 64) - 2 ^ 64 else n % (2 ^ 64) := rfl
  rw [this, show (2 : Int) ^ 64 = 18446744073709551616 from by decide]
  simp
theorem wu8_def (n : Int) : wu8 n = n % 256 := by
  have : wu8 n = if (false && decide (n % (2 ^ 8) ≥ 2 ^ (8 - 1))) = true then n % (2 ^ 8) - 2 ^ 8 else n % (2 ^ 8) := rfl
  rw [this, show (2 : Int) ^ 8 = 256 from by decide]
  simp
theorem wu32_def (n : Int) : wu32 n = n % 4294967296 := by
  have : wu32 n = if (false && decide (n % (2 ^ 32) ≥ 2 ^ (32 - 1))) = true then n % (2 ^ 32) - 2 ^ 32 else n % (2 ^ 32) := rfl
  rw [this, show (2 : Int) ^ 32 = 4294967296 from by decide]
  simp
theorem wi64_id {n : Int} (h1 : -9223372036854775808 ≤ n) (h2 : n ≤ 9223372036854775807) : wi64 n = n := by
  rw [wi64_def]; split <;> omega
theorem wu8_id {n : Int} (h1 : 0 ≤ n) (h2 : n ≤ 255) : wu8 n = n := by rw [wu8_def]; omega
theorem wu64_id {n : Int} (h1 : 0 ≤ n) (h2 : n ≤ 18446744073709551615) : wu64 n = n := by rw [wu64_def]; omega
theorem wi64_nat {n : Nat} (h : n ≤ 9223372036854775807) : wi64 (n : Int) = n := wi64_id (by omega) (by omega)
theorem wi64_add1 {n : Nat} (h : n < 9223372036854775807) : wi64 ((n : Int) + 1) = ((n + 1 : Nat) : Int) := by rw [wi64_id (by omega) (by omega)]; rfl
theorem wi64_ge (n : Int) : -9223372036854775808 ≤ wi64 n ∧ wi64 n ≤ 9223372036854775807 := by rw [wi64_def]; split <;> omega
theorem wf64 {n : Int} (h : (Lit.int .i64 n).wf = true) : -9223372036854775808 ≤ n ∧ n ≤ 9223372036854775807 := by
  have h' : (IntKind.i64.min ≤ n && n ≤ IntKind.i64.max) = true := h
  simpa [IntKind.min, IntKind.max, IntKind.signed, IntKind.bits] using h'
theorem wf8 {n : Int} (h : (Lit.int .u8 n).wf = true) : 0 ≤ n ∧ n ≤ 255 := by
  have h' : (IntKind.u8.min ≤ n && n ≤ IntKind.u8.max) = true := h
  simpa [IntKind.min, IntKind.max, IntKind.signed, IntKind.bits] using h'
/-- a number as a natural one -/
theorem toNat_cast {n : Int} (h : 0 ≤ n) : ((n.toNat : Nat) : Int) = n := by omega

/-! ### looks that hold -/
theorem le3_ok {a b c : Int} (h1 : a ≤ b) (h2 : b ≤ c) : le3 a b c = true := by simp [le3, h1, h2]
theorem lt3_ok {a b c : Int} (h1 : a ≤ b) (h2 : b < c) : lt3 a b c = true := by simp [lt3, h1, h2]
theorem room_ok {n b : Nat} (h : n * b ≤ 140737488355328) : room n b = true := Nat.ble_eq_true_of_le h
theorem joins_ok {a b : ByteArray} (h : a.size + b.size ≤ 9223372036854775807) : joins a b = true := Nat.ble_eq_true_of_le h
theorem le3_iff {a b c : Int} : le3 a b c = true ↔ a ≤ b ∧ b ≤ c := by simp [le3]
theorem lt3_iff {a b c : Int} : lt3 a b c = true ↔ a ≤ b ∧ b < c := by simp [lt3]

/-! ### texts -/
theorem seq_iff {a b : ByteArray} : seq a b = true ↔ a = b := by
  unfold seq
  rw [beq_iff_eq]
  constructor
  · intro h
    have : a.data.toList = b.data.toList := by simpa [ByteArray.toList_eq] using h
    cases a; cases b; simp_all
  · rintro rfl; rfl
theorem seq_self (a : ByteArray) : seq a a = true := seq_iff.2 rfl
theorem seq_eq (a b : ByteArray) : seq a b = decide (a = b) := by
  cases h : seq a b with
  | true => simp [seq_iff.1 h]
  | false =>
    have : ¬ a = b := fun e => by rw [e, seq_self] at h; cases h
    simp [this]

theorem bs_size (l : List Nat) : (bs l).size = l.length := by
  show (l.map UInt8.ofNat).toArray.size = _
  simp
theorem toB_size (l : List Int) : (toB l).size = l.length := by
  show (l.map _).toArray.size = _
  simp

/-! ### indexes and loops -/
theorem idx_nat {α : Type} (l : List α) (i : Nat) : idx l (i : Int) = l[i]? := by unfold idx; rw [if_pos (by omega)]; rfl
theorem idx_some {α : Type} {l : List α} {i : Nat} {x : α} (h : l[i]? = some x) : idx l (i : Int) = some x := by rw [idx_nat, h]
theorem idx_int {α : Type} {l : List α} {i : Int} (h : 0 ≤ i) : idx l i = l[i.toNat]? := by unfold idx; rw [if_pos h]
theorem drop_head {α : Type} {l : List α} {i : Nat} {x : α} {r : List α} (h : l.drop i = x :: r) : l[i]? = some x ∧ i < l.length ∧ l.drop (i + 1) = r := by
  have h1 : l[i]? = some x := by rw [← List.head?_drop, h]; rfl
  refine ⟨h1, (List.getElem?_eq_some_iff.1 h1).1, ?_⟩
  have := congrArg (List.drop 1) h
  simpa [List.drop_drop] using this
/-- a loop that steps up through a list -/
theorem loop_up {α σ R : Type} (l : List α) (F : Nat → σ → Option R) (m : List α → σ → Option R) (Inv : Nat → σ → Prop) (h0 : ∀ s, Inv l.length s → F l.length s = m [] s)
    (hs : ∀ i x r s, l[i]? = some x → i < l.length → l.drop i = x :: r → Inv i s → (∀ s, Inv (i + 1) s → F (i + 1) s = m r s) → F i s = m (x :: r) s) : ∀ i s, i ≤ l.length → Inv i s → F i s = m (l.drop i) s := by
  suffices ∀ n i s, l.length = i + n → Inv i s → F i s = m (l.drop i) s from fun i s hi => this (l.length - i) i s (by omega)
  intro n
  induction n with
  | zero =>
    intro i s hi hI
    obtain rfl : i = l.length := by omega
    rw [List.drop_length]
    exact h0 s hI
  | succ n ih =>
    intro i s hi hI
    have hlt : i < l.length := by omega
    have hd : l.drop i = l[i] :: l.drop (i + 1) := List.drop_eq_getElem_cons hlt
    rw [hd]
    exact hs i _ _ s (List.getElem?_eq_getElem hlt) hlt hd hI (fun s hI' => ih (i + 1) s (by omega) hI')
/-- a loop that steps up to a number -/
theorem loop_to {σ R : Type} (n : Nat) (F : Nat → σ → R) (m : Nat → σ → R) (Inv : Nat → σ → Prop) (h0 : ∀ s, Inv n s → F n s = m n s)
    (hs : ∀ i s, i < n → Inv i s → (∀ s, Inv (i + 1) s → F (i + 1) s = m (i + 1) s) → F i s = m i s) : ∀ i s, i ≤ n → Inv i s → F i s = m i s := by
  suffices ∀ k i s, n = i + k → Inv i s → F i s = m i s from fun i s hi => this (n - i) i s (by omega)
  intro k
  induction k with
  | zero => intro i s hi hI; have e : n = i := by omega
            rw [e] at h0; exact h0 s hI
  | succ k ih => intro i s hi hI; exact hs i s (by omega) hI (fun s hI' => ih (i + 1) s (by omega) hI')
/-- a slice that is filled from another one -/
theorem loop_fill {α β R : Type} (l : List α) (g : α → β) (F : Nat → List β → Option R) (res : List β → R) (h0 : ∀ out, out.length = l.length → F l.length out = some (res out))
    (hs : ∀ i x out, l[i]? = some x → i < l.length → out.length = l.length → F i out = F (i + 1) (out.set i (g x))) (out : List β) (ho : out.length = l.length) : F 0 out = some (res (l.map g)) := by
  have key : ∀ n i out, l.length = i + n → out.length = l.length → F i out = some (res (out.take i ++ (l.drop i).map g)) := by
    intro n
    induction n with
    | zero =>
      intro i out hi ho
      obtain rfl : i = l.length := by omega
      rw [h0 out ho, List.drop_length, List.map_nil, List.append_nil, List.take_of_length_le (by omega)]
    | succ n ih =>
      intro i out hi ho
      have hlt : i < l.length := by omega
      rw [hs i l[i] out (List.getElem?_eq_getElem hlt) hlt ho, ih (i + 1) _ (by omega) (by simpa using ho)]
      rw [List.drop_eq_getElem_cons hlt, List.map_cons]
      congr 2
      have h1 : i < (out.set i (g l[i])).length := by simp; omega
      rw [List.take_succ_eq_append_getElem h1]
      simp [List.take_set_of_le]
  rw [key l.length 0 out (by omega) ho]
  simp
theorem len_bound {n b k : Nat} (h : n * b ≤ k) (hb : 1 ≤ b) : n ≤ k := Nat.le_trans (Nat.le_mul_of_pos_right n (by omega)) h

/-! ### the laws' own helpers: how much there is, marks -/
def bulkL {α : Type} (b : α → Nat) (l : List α) : Nat := l.length + (l.map b).sum
def smL {α : Type} (p : α → Prop) (l : List α) : Prop := l.length ≤ 140737488355328 ∧ ∀ x ∈ l, p x
theorem mem_of_at {α : Type} {l : List α} {i : Nat} {x : α} (h : l[i]? = some x) : x ∈ l := List.mem_of_getElem? h
theorem sum_mem {α : Type} {b : α → Nat} : ∀ {l : List α} {x : α}, x ∈ l → b x ≤ (l.map b).sum
  | y :: l, x, h => by
    rw [List.map_cons, List.sum_cons]
    rcases List.mem_cons.1 h with rfl | h
    · omega
    · have := sum_mem (b := b) h; omega
theorem bulk_mem {α : Type} {b : α → Nat} {l : List α} {x : α} (h : x ∈ l) : b x ≤ bulkL b l := by have := sum_mem (b := b) h; unfold bulkL; omega
theorem bulk_len {α : Type} (b : α → Nat) (l : List α) : l.length ≤ bulkL b l := by unfold bulkL; omega
theorem map_zero {α : Type} : ∀ (l : List α), (l.map (fun _ => (0 : Nat))).sum = 0
  | [] => rfl
  | _ :: l => by rw [List.map_cons, List.sum_cons, map_zero l]
theorem sz_loop {α : Type} (l : List α) (b : α → Nat) (F : Int → Int → Option Int) (hend : ∀ left, F left (l.length : Int) = some left)
    (hs : ∀ (i : Nat) x left, l[i]? = some x → i < l.length → 0 ≤ left → left ≤ 1048576 → F left i = if (b x : Int) ≤ left then F (left - b x) ((i + 1 : Nat) : Int) else some (-1)) (left : Int) (h0 : 0 ≤ left) (h1 : left ≤ 1048576) :
    F left 0 = some (if ((l.map b).sum : Int) ≤ left then left - (l.map b).sum else -1) := by
  have key : ∀ n (i : Nat) left, l.length = i + n → 0 ≤ left → left ≤ 1048576 → F left i = some (if (((l.drop i).map b).sum : Int) ≤ left then left - ((l.drop i).map b).sum else -1) := by
    intro n
    induction n with
    | zero =>
      intro i left hi h0 h1
      obtain rfl : i = l.length := by omega
      rw [hend, List.drop_length, if_pos (by simpa using h0)]; simp
    | succ n ih =>
      intro i left hi h0 h1
      have hlt : i < l.length := by omega
      rw [hs i l[i] left (List.getElem?_eq_getElem hlt) hlt h0 h1, List.drop_eq_getElem_cons hlt, List.map_cons, List.sum_cons]
      by_cases c : (b l[i] : Int) ≤ left
      · rw [if_pos c, ih (i + 1) _ (by omega) (by omega) (by omega)]
        by_cases c2 : (((l.drop (i + 1)).map b).sum : Int) ≤ left - b l[i]
        · rw [if_pos c2, if_pos (by omega)]; congr 1; omega
        · rw [if_neg c2, if_neg (by omega)]
      · rw [if_neg c, if_neg (by omega)]
  simpa using key l.length 0 left (by omega) h0 h1
theorem loop_all {α R : Type} (l : List α) (F : Nat → Option R) (r : Option R) (h0 : F l.length = r) (hs : ∀ i x, l[i]? = some x → i < l.length → F i = F (i + 1)) : F 0 = r := by
  have key : ∀ n i, l.length = i + n → F i = r := by
    intro n
    induction n with
    | zero => intro i hi; obtain rfl : i = l.length := by omega
              exact h0
    | succ n ih => intro i hi; rw [hs i l[i] (List.getElem?_eq_getElem (by omega)) (by omega)]; exact ih (i + 1) (by omega)
  exact key l.length 0 (by omega)

/-- marked rows, one behind the other -/
def mkdL {α : Type} (mkd : Int → α → α) (cnt : α → Nat) : Int → List α → List α
  | _, [] => []
  | k, x :: l => mkd k x :: mkdL mkd cnt (k + cnt x) l
def cntL {α : Type} (cnt : α → Nat) (l : List α) : Nat := (l.map cnt).sum
theorem mkdL_len {α : Type} {mkd : Int → α → α} {cnt : α → Nat} : ∀ (l : List α) (k : Int), (mkdL mkd cnt k l).length = l.length
  | [], _ => rfl
  | x :: l, k => by rw [mkdL, List.length_cons, mkdL_len l, List.length_cons]
theorem cntL_cons {α : Type} (cnt : α → Nat) (x : α) (l : List α) : cntL cnt (x :: l) = cnt x + cntL cnt l := by unfold cntL; rw [List.map_cons, List.sum_cons]
theorem mark_loop {α : Type} (a : List α) (mkd : Int → α → α) (cnt : α → Nat) (B : Int) (F : Int → Int → List α → Option (Int × List α)) (hend : ∀ k a, F k (a.length : Int) a = some (k, a)) {P : α → Prop}
    (hs : ∀ k (i : Nat) l x, l[i]? = some x → i < l.length → l.length = a.length → P x → 0 ≤ k → k + cnt x ≤ B → F k i l = F (k + cnt x) ((i + 1 : Nat) : Int) (l.set i (mkd k x))) (hP : ∀ x ∈ a, P x) (k : Int) (h0 : 0 ≤ k) (hB : k + cntL cnt a ≤ B) :
    F k 0 a = some (k + cntL cnt a, mkdL mkd cnt k a) := by
  have key : ∀ (r : List α) (d : List α) k, (d ++ r).length = a.length → (∀ x ∈ r, P x) → 0 ≤ k → k + cntL cnt r ≤ B → F k (d.length : Int) (d ++ r) = some (k + cntL cnt r, d ++ mkdL mkd cnt k r) := by
    intro r
    induction r with
    | nil => intro d k _ _ h0 hB; rw [List.append_nil, hend]; simp [cntL, mkdL]
    | cons x r ih =>
      intro d k hl hP h0 hB
      rw [cntL_cons] at hB
      rw [hs k d.length (d ++ x :: r) x (by simp) (by simp) hl (hP x (by simp)) h0 (by omega)]
      have e1 : (d ++ x :: r).set d.length (mkd k x) = (d ++ [mkd k x]) ++ r := by simp
      have e2 : ((d.length + 1 : Nat) : Int) = ((d ++ [mkd k x]).length : Int) := by simp
      rw [e1, e2, ih (d ++ [mkd k x]) (k + cnt x) (by simpa using hl) (fun y hy => hP y (by simp [hy])) (by omega) (by omega), mkdL, cntL_cons]
      simp
      omega
  simpa using key a [] k rfl hP h0 hB
theorem held_loop {α : Type} (mkd : Int → α → α) (cnt : α → Nat) (B : Int) (l : List α) (H : Int → Int → Option Int) (hend : ∀ k, H k (l.length : Int) = some k) {P : α → Prop}
    (hs : ∀ k (i : Nat) x, l[i]? = some (mkd k x) → i < l.length → P x → 0 ≤ k → k + cnt x ≤ B → H k i = H (k + cnt x) ((i + 1 : Nat) : Int)) (a : List α) (hP : ∀ x ∈ a, P x) (k : Int) (h0 : 0 ≤ k) (hB : k + cntL cnt a ≤ B) (hl : l = mkdL mkd cnt k a) :
    H k 0 = some (k + cntL cnt a) := by
  have key : ∀ (r : List α) (i : Nat) k, (∀ x ∈ r, P x) → 0 ≤ k → k + cntL cnt r ≤ B → i ≤ l.length → l.drop i = mkdL mkd cnt k r → H k i = some (k + cntL cnt r) := by
    intro r
    induction r with
    | nil =>
      intro i k _ h0 hB hi hd
      have : i = l.length := by
        have := congrArg List.length hd
        rw [List.length_drop] at this
        simp [mkdL] at this
        omega
      subst this
      rw [hend]; simp [cntL]
    | cons x r ih =>
      intro i k hP h0 hB hi hd
      rw [cntL_cons] at hB
      obtain ⟨g1, g2, g3⟩ := drop_head (by rw [hd, mkdL])
      rw [hs k i x g1 g2 (hP x (by simp)) h0 (by omega), ih (i + 1) (k + cnt x) (fun y hy => hP y (by simp [hy])) (by omega) (by omega) (by omega) g3, cntL_cons]
      congr 1; omega
  exact key a 0 k hP h0 hB (by omega) (by rw [List.drop_zero]; exact hl)
theorem cntL_le {α : Type} {cnt : α → Nat} {c : Nat} : ∀ {l : List α}, (∀ x ∈ l, cnt x ≤ c) → cntL cnt l ≤ l.length * c
  | [], _ => by simp [cntL]
  | x :: l, h => by
    have := cntL_le (cnt := cnt) (l := l) (fun y hy => h y (by simp [hy]))
    have := h x (by simp)
    rw [cntL_cons, List.length_cons, Nat.succ_mul]; omega

/-! ### loops that look for something -/
theorem find_loop {α : Type} (l : List α) (p : α → Bool) (F : Int → Option Int) (hend : F (l.length : Int) = some (-1)) (hs : ∀ (i : Nat) x, l[i]? = some x → i < l.length → F i = sif (p x) (some (i : Int)) (F ((i + 1 : Nat) : Int))) :
    ∃ r, F 0 = some r ∧ decide (r ≥ 0) = l.any p := by
  have key : ∀ n (i : Nat), l.length = i + n → ∃ r, F i = some r ∧ decide (r ≥ 0) = (l.drop i).any p := by
    intro n
    induction n with
    | zero => intro i hi; obtain rfl : i = l.length := by omega
              exact ⟨-1, hend, by simp⟩
    | succ n ih =>
      intro i hi
      have hlt : i < l.length := by omega
      rw [hs i l[i] (List.getElem?_eq_getElem hlt) hlt, List.drop_eq_getElem_cons hlt, List.any_cons]
      cases hp : p l[i] with
      | true => exact ⟨i, rfl, by simp⟩
      | false =>
        obtain ⟨r, h1, h2⟩ := ih (i + 1) (by omega)
        exact ⟨r, h1, by rw [h2]; rfl⟩
  simpa using key l.length 0 (by omega)
theorem find_any {α : Type} {l : List α} {p : α → Bool} {F : Option Int} (h : ∃ r, F = some r ∧ decide (r ≥ 0) = l.any p) : sbind F (fun r => some (decide (r ≥ 0))) = some (l.any p) := by
  obtain ⟨r, rfl, h⟩ := h
  rw [sbind_some, h]
/-- a loop that ends with 'false' at the first that does not hold -/
theorem all_loop {α : Type} {R : Type} (l : List α) (p : α → Bool) (F : Nat → Option R) (no : R) (hs : ∀ i x, l[i]? = some x → i < l.length → F i = sif (p x) (F (i + 1)) (some no)) : F 0 = sif (l.all p) (F l.length) (some no) := by
  have key : ∀ n i, l.length = i + n → F i = sif ((l.drop i).all p) (F l.length) (some no) := by
    intro n
    induction n with
    | zero => intro i hi; obtain rfl : i = l.length := by omega
              simp
    | succ n ih =>
      intro i hi
      have hlt : i < l.length := by omega
      rw [hs i l[i] (List.getElem?_eq_getElem hlt) hlt, List.drop_eq_getElem_cons hlt, List.all_cons, ih (i + 1) (by omega)]
      cases p l[i] <;> rfl
  simpa using key l.length 0 (by omega)
theorem any_not_all {α : Type} (l : List α) (p q : α → Bool) (h : ∀ x ∈ l, q x = !p x) : l.any q = !l.all p := by
  induction l with
  | nil => rfl
  | cons x l ih =>
    rw [List.any_cons, List.all_cons, ih (fun y hy => h y (by simp [hy])), h x (by simp)]
    cases p x <;> rfl
/-- lo ≤ n ≤ hi -/
def inr (n lo hi : Int) : Bool := decide (lo ≤ n) && decide (n ≤ hi)
theorem inr_iff {n lo hi : Int} : inr n lo hi = true ↔ lo ≤ n ∧ n ≤ hi := by simp [inr]
theorem inr_sif (n lo hi : Int) : sif (decide (n ≥ lo)) (some (decide (n ≤ hi))) (some false) = some (inr n lo hi) := by rw [sif_bool]; rfl
end Go.Ve
