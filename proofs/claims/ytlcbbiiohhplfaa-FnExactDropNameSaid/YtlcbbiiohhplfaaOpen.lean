/- Opening what comes in, by its type's shape: what reads as data has a value of the print's own kinds, within its bounds. No condition. -/
import Derived.Test.YtlcbbiiohhplfaaWWords
import Derived.ChangeArms
import Derived.DataReads
import Derived.SizedLaws
import Derived.ChangeShapes
namespace Go.Proofs.Ytlcbbiiohhplfaa.Open
open Go.RowKit Go.Proofs.YtlcbbiiohhplfaaW.PrintWords

def Opn (P : Program) (n : Nat) (t : TypeId) {α : Type} (d : Kd α) (ok : α → Prop) : Prop :=
  ∀ (H : Type) (enc : TypeId × Value → H) (w : World) (base : Nat) (sp : Nat → Bool) (held : Bool) (fuel : Nat) (cs : List Value) (x : DataW H × List MemPlace), fuel ≤ n →
    DataW.trod enc P w base sp held fuel t cs = some x → (DataW.weights P t x.1).all (· ≤ reachBytes) = true → ∃ a, d.K w a cs ∧ ok a

section
variable {P : Program} {n : Nat} {t : TypeId}
theorem opn_int {k : IntKind} (ht : P.underlying t = some (.int k)) : Opn P n t (Kd.int k) (fun a => (Lit.int k a).wf = true) := by
  intro H enc w base sp held fuel cs x _ h _
  obtain ⟨v, rfl, _, hw⟩ := DataW.trod_int ht h
  exact ⟨v, rfl, hw⟩
theorem opn_bool (ht : P.underlying t = some .bool) : Opn P n t Kd.bool (fun _ => True) := by
  intro H enc w base sp held fuel cs x _ h _
  obtain ⟨v, rfl, _⟩ := DataW.trod_bool ht h
  exact ⟨v, rfl, trivial⟩
theorem opn_str (ht : P.underlying t = some .string) : Opn P n t Kd.string (fun s => s.size ≤ 140737488351232) := by
  intro H enc w base sp held fuel cs x _ h hw
  obtain ⟨s, rfl, rfl, _⟩ := DataW.trod_string ht h
  refine ⟨s, rfl, ?_⟩
  simp only [DataW.weights, List.all_cons, List.all_nil, Bool.and_true, Array.length_toList] at hw
  exact of_decide_eq_true hw

theorem choose_list {α : Type} {Q : Nat → α → Prop} : ∀ m : Nat, (∀ i, i < m → ∃ b, Q i b) → ∃ xs : List α, xs.length = m ∧ ∀ i b, xs[i]? = some b → Q i b
  | 0, _ => ⟨[], rfl, fun i b h => by simp at h⟩
  | m + 1, h => by
    obtain ⟨xs, hl, hx⟩ := choose_list m (fun i hi => h i (by omega))
    obtain ⟨b, hb⟩ := h m (by omega)
    refine ⟨xs ++ [b], by simp [hl], fun i c hc => ?_⟩
    by_cases hi : i < xs.length
    · rw [List.getElem?_append_left hi] at hc
      exact hx i c hc
    · have hi2 : i = m := by
        have := (List.getElem?_eq_some_iff.1 hc).1
        rw [List.length_append, List.length_singleton] at this
        omega
      subst hi2
      rw [← hl] at hc
      simp at hc
      rw [← hc]
      exact hb
theorem weights_all {H : Type} {e : TypeId} : ∀ (l : List (DataW H)), (DataW.weightsAll P e l).all (· ≤ reachBytes) = true → ∀ d ∈ l, (DataW.weights P e d).all (· ≤ reachBytes) = true
  | [], _, d, hd => by cases hd
  | a :: r, h, d, hd => by
    simp only [DataW.weightsAll, List.all_append, Bool.and_eq_true] at h
    rcases List.mem_cons.1 hd with rfl | hd
    · exact h.1
    · exact weights_all r h.2 d hd
theorem add_addr (a : Addr) (m j : Nat) : (a.add m).add j = a.add (m + j) := by
  unfold Addr.add
  by_cases hj : j = 0
  · subst hj; simp
  · by_cases hm : m = 0
    · subst hm; simp
    · simp [hj, hm, Nat.add_assoc]
theorem opn_slice {e : TypeId} {α : Type} {d : Kd α} {ok : α → Prop} (B : Nat) (ht : P.underlying t = some (.slice e)) (hc : P.cellsOf e = d.sz) (hB : P.bytesOf e = B) (he : Opn P n e d ok) :
    Opn P n t (Kd.slice e d) (fun xs => xs.length ≤ maxLen ∧ xs.length * B ≤ 140737488351232 ∧ ∀ x ∈ xs, ok x) := by
  intro H enc w base sp held fuel cs x hfu h hw
  rcases DataW.trod_slice ht h with ⟨rfl, rfl⟩ | ⟨a, len, cap, elems, rest, m, rfl, rfl, rfl, hb, hl, hm, hlen, hel, _, _⟩
  · exact ⟨[], ⟨none, 0, rfl, Nat.le_refl _, rfl, by simp, fun h => by simp at h⟩, by simp, by simp, by simp⟩
  · simp only [DataW.weights, ht, List.all_cons, List.all_append, Bool.and_eq_true, List.length_map, hB] at hw
    obtain ⟨hw1, hw2, _⟩ := hw
    have hw1' : (elems.length + rest.length) * B ≤ 140737488351232 := of_decide_eq_true hw1
    obtain ⟨xs, hxl, hx⟩ := choose_list (Q := fun i b => (∃ c, c.length = d.sz ∧ d.K w b c ∧ ∀ j u, c[j]? = some u → w.cell? (a.add (i * d.sz + j)) = some u) ∧ ok b) len (fun i hi => by
      have hk := hel i hi
      rw [hc] at hk
      have hi' : i < elems.length := by omega
      rw [List.getElem?_eq_getElem hi'] at hk
      obtain ⟨c, h1, h2⟩ := Option.bind_eq_some_iff.1 hk
      obtain ⟨b, hb1, hb2⟩ := he H enc w base sp held m c _ (by omega) h2 (weights_all _ hw2 _ (List.mem_map.2 ⟨_, List.getElem_mem hi', rfl⟩))
      refine ⟨b, ⟨c, d.K_len hb1, hb1, fun j u hu => ?_⟩, hb2⟩
      obtain ⟨_, hcl, hcell⟩ := World.cells?_some h1
      have hj : j < d.sz := by rw [← d.K_len hb1]; exact (List.getElem?_eq_some_iff.1 hu).1
      rw [← add_addr, hcell j (by omega), hu])
    have hle : elems.length * B ≤ (elems.length + rest.length) * B := Nat.mul_le_mul_right _ (by omega)
    refine ⟨xs, ⟨some a, cap, by rw [hxl], by omega, hxl ▸ rfl, by simp only [maxLen] at hm; omega, fun _ => ⟨a, rfl, fun j p hp => (hx j p hp).1⟩⟩, by omega, by rw [hxl, ← hlen]; omega, fun p hp => ?_⟩
    obtain ⟨i, hi, rfl⟩ := List.getElem_of_mem hp
    exact (hx i _ (List.getElem?_eq_getElem hi)).2

/-- The fields of a struct from one on: their cells are those behind 'off'; the struct has L cells. -/
def OpnF (P : Program) (n L off : Nat) (fs : List Field) {α : Type} (d : Kd α) (ok : α → Prop) : Prop :=
  ∀ (H : Type) (enc : TypeId × Value → H) (w : World) (base : Nat) (sp : Nat → Bool) (held : Bool) (fuel : Nat) (cs : List Value) (xs : List (DataW H × List MemPlace)), fuel ≤ n → cs.length = L → xs.length = fs.length →
    (∀ (i : Nat) (f : Field), fs[i]? = some f → DataW.trod enc P w base sp held fuel f.type ((cs.drop f.offset).take (P.cellsOf f.type)) = xs[i]?) →
    (DataW.weightsEach P (fs.map (·.type)) (xs.map (·.1))).all (· ≤ reachBytes) = true → ∃ a, d.K w a (cs.drop off) ∧ ok a
theorem opnF_one {L off : Nat} {f : Field} {α : Type} {d : Kd α} {ok : α → Prop} (ho : f.offset = off) (hL : off + P.cellsOf f.type = L) (h : Opn P n f.type d ok) : OpnF P n L off [f] d ok := by
  intro H enc w base sp held fuel cs xs hfu hcs hxs hf hw
  match xs, hxs with
  | [x], _ =>
    have h0 := hf 0 f rfl
    rw [ho, List.take_of_length_le (by rw [List.length_drop]; omega)] at h0
    simp only [List.map_cons, List.map_nil, DataW.weightsEach, List.append_nil] at hw
    exact h H enc w base sp held fuel _ x hfu (by simpa using h0) hw
theorem opnF_cons {L off off' : Nat} {f : Field} {fs : List Field} {α β : Type} {d : Kd α} {d' : Kd β} {ok : α → Prop} {ok' : β → Prop} (ho : f.offset = off) (ho' : off + P.cellsOf f.type = off') (h : Opn P n f.type d ok) (h' : OpnF P n L off' fs d' ok') :
    OpnF P n L off (f :: fs) (Kd.pair d d') (fun p => ok p.1 ∧ ok' p.2) := by
  intro H enc w base sp held fuel cs xs hfu hcs hxs hf hw
  match xs, hxs with
  | x :: xs, hxs =>
    have h0 := hf 0 f rfl
    rw [ho] at h0
    simp only [List.map_cons, DataW.weightsEach, List.all_append, Bool.and_eq_true] at hw
    obtain ⟨a, ha, oa⟩ := h H enc w base sp held fuel _ x hfu (by simpa using h0) hw.1
    obtain ⟨b, hb, ob⟩ := h' H enc w base sp held fuel cs xs hfu hcs (by simpa using hxs) (fun i g hg => by simpa using hf (i + 1) g (by simpa using hg)) hw.2
    refine ⟨(a, b), ⟨(cs.drop off).take (P.cellsOf f.type), cs.drop off', ?_, ha, hb⟩, oa, ob⟩
    rw [← ho', ← List.drop_drop, List.take_append_drop]
theorem opn_struct {L : Nat} {fs : Array Field} {α : Type} {d : Kd α} {ok : α → Prop} (ht : P.underlying t = some (.struct fs)) (hL : P.cellsOf t = L) (h : OpnF P n L 0 fs.toList d ok) : Opn P (n + 1) t d ok := by
  intro H enc w base sp held fuel cs x hfu hx hw
  obtain ⟨xs, m, rfl, rfl, hl, hlen, hf⟩ := DataW.trod_struct ht hx
  simp only [DataW.weights, ht] at hw
  have := h H enc w base sp held m cs xs (by omega) (by omega) (by simpa using hlen) (fun i f hi => hf i f (by simpa using hi)) hw
  simpa using this
theorem opn_iso {α β : Type} {d : Kd α} {ok : α → Prop} (f : β → α) (g : α → β) (hg : ∀ a, f (g a) = a) (h : Opn P n t d ok) : Opn P n t (Kd.iso d f) (fun b => ok (f b)) := by
  intro H enc w base sp held fuel cs x hfu hx hw
  obtain ⟨a, ha, oa⟩ := h H enc w base sp held fuel cs x hfu hx hw
  exact ⟨g a, by show d.K w (f (g a)) cs; rw [hg]; exact ha, by show ok (f (g a)); rw [hg]; exact oa⟩
theorem opn_mono {m : Nat} {α : Type} {d : Kd α} {ok : α → Prop} (h : Opn P n t d ok) (hm : m ≤ n) : Opn P m t d ok := fun H enc w base sp held fuel cs x hfu => h H enc w base sp held fuel cs x (by omega)
theorem opn_imp {α : Type} {d : Kd α} {ok ok' : α → Prop} (h : Opn P n t d ok) (hi : ∀ a, ok a → ok' a) : Opn P n t d ok' := fun H enc w base sp held fuel cs x hfu hx hw => by
  obtain ⟨a, ha, oa⟩ := h H enc w base sp held fuel cs x hfu hx hw
  exact ⟨a, ha, hi a oa⟩
theorem opn_zero {α : Type} (d : Kd α) (ok : α → Prop) : Opn P 0 t d ok := fun H enc w base sp held fuel cs x hfu hx hw => by
  obtain rfl : fuel = 0 := by omega
  simp [DataW.trod] at hx
/-- Off 'Trod', with the weights of all that came in. -/
theorem opn_use {α : Type} {d : Kd α} {ok : α → Prop} (h : ∀ n, Opn P n t d ok) {H : Type} {enc : TypeId × Value → H} {w : World} {base : Nat} {sp : Nat → Bool} {held : Bool} {v : Value} {D : DataW H} {ps : List MemPlace} (hd : DataW.Trod enc P w base sp held t v D ps)
    {ts : List TypeId} {ds : List (DataW H)} (hsz : (DataW.weightsEach P ts ds).all (· ≤ reachBytes) = true) {j : Nat} (htj : ts[j]? = some t) (hdj : ds[j]? = some D) : ∃ a, d.K w a v.cells.toList ∧ ok a := by
  obtain ⟨fuel, hf⟩ := hd
  refine h fuel H enc w base sp held fuel _ _ (Nat.le_refl _) hf ?_
  exact List.all_eq_true.2 fun m hm => List.all_eq_true.1 hsz m (DataW.weights_mem_each htj hdj m hm)
theorem trod_blocks {H : Type} {enc : TypeId × Value → H} {w : World} {base : Nat} {sp : Nat → Bool} {held : Bool} {v : Value} {D : DataW H} {ps : List MemPlace} (hd : DataW.Trod enc P w base sp held t v D ps) : ∀ x ∈ ps, x.block < w.heap.size := by
  obtain ⟨m, hm⟩ := hd
  exact DataW.trod_lt m _ _ _ hm
end
end Go.Proofs.Ytlcbbiiohhplfaa.Open
