/- A verified evaluator for translated Go functions, part 3: what one function answers, over abstract values, and the proof that the call answers so. No condition: every law is proved here. -/
import Derived.ChangeArms
import Derived.DataReads
import Derived.SizedLaws
import Derived.ChangeShapes
import Derived.Lib.Bytealg
import Derived.Shelf.Strings.Repeat
import Derived.Lib.TrimByte
import Derived.Lib.ItoaNum
import Derived.Lib.LaidTab
import Derived.Lib.Join
import Derived.Lib.AppendIntMem
import Derived.Lib.SplitLaws
import Derived.Shelf.Vars
import Derived.Shelf.Strings.Builder1
import Derived.Laws.StructEq
import Derived.Test.YtaijkhkgjedkaaaGreatDoorVeB
namespace Go.Ve
set_option linter.unusedVariables false
set_option linter.unusedSimpArgs false
section
variable {S : Sig} {D D' : Nat → Prop} {φ φ' : Nat → Loc} {Fz : Nat → Prop} {w : World}
theorem QnE : ∀ {l : List (Nat × Nat)}, (∀ id ∈ Qff l, D' id ∧ φ' id = φ id) → Q3e φ' l = Q3e φ l ∧ Q47 D' l
  | [], _ => ⟨rfl, trivial⟩
  | (i, o) :: l, h => by
    have ih := QnE (l := l) (fun id hid => h id (List.mem_cons_of_mem _ hid))
    have h0 := h i (by simp [Qff])
    exact ⟨by simp only [Q3e]; rw [h0.2, ih.1], h0.1, ih.2⟩
theorem CRep.on {c : Cell S.K} {v : Value} (h : CRep S D φ Fz w c v) (ho : ∀ id ∈ c.ids, D' id ∧ φ' id = φ id) : CRep S D' φ' Fz w c v := by
  cases c with
  | vec id => have := ho id (by simp [Cell.ids]); exact ⟨this.1, by rw [this.2]; exact h.2⟩
  | sub id lo hi => have := ho id (by simp [Cell.ids]); exact ⟨this.1, by rw [this.2]; exact h.2⟩
  | ptr id off => have := ho id (by simp [Cell.ids]); exact ⟨this.1, by rw [this.2]; exact h.2⟩
  | elt id i off => have := ho id (by simp [Cell.ids]); exact ⟨this.1, by rw [this.2]; exact h.2⟩
  | fn f caps => have := QnE (D' := D') (φ' := φ') (φ := φ) ho; exact ⟨this.2, by rw [this.1]; exact h.2⟩
  | self id => have := ho id (by simp [Cell.ids]); exact ⟨this.1, by rw [this.2]; exact h.2⟩
  | _ => exact h
theorem QlW : ∀ {l : List (Nat × Nat)}, Q47 D l → ∀ id ∈ Qff l, D id
  | [], _, id, h => by cases h
  | (i, o) :: l, h, id, hid => by
    rcases List.mem_cons.1 hid with rfl | hid
    · exact h.1
    · exact QlW h.2 id hid
theorem CRep.ids {c : Cell S.K} {v : Value} (h : CRep S D φ Fz w c v) : ∀ id ∈ c.ids, D id := by
  cases c with
  | vec id => intro i hi; simp [Cell.ids] at hi; subst hi; exact h.1
  | sub id lo hi => intro i hi; simp [Cell.ids] at hi; subst hi; exact h.1
  | ptr id off => intro i hi; simp [Cell.ids] at hi; subst hi; exact h.1
  | elt id i off => intro i hi; simp [Cell.ids] at hi; subst hi; exact h.1
  | fn f caps => exact QlW h.1
  | self id => intro i hi; simp [Cell.ids] at hi; subst hi; exact h.1
  | _ => intro i hi; simp [Cell.ids] at hi
theorem QpZ : ∀ {cs : List (Cell S.K)} {vs : List Value}, All2 (CRep S D φ Fz w) cs vs → (∀ id ∈ idsC cs, D' id ∧ φ' id = φ id) → All2 (CRep S D' φ' Fz w) cs vs
  | _, _, .nil, _ => .nil
  | _, _, .cons h t, ho => .cons (h.on (fun id hid => ho id (by simp [idsC, hid]))) (QpZ t (fun id hid => ho id (by simp [idsC, hid])))
theorem QnF : ∀ {cs : List (Cell S.K)} {vs : List Value}, All2 (CRep S D φ Fz w) cs vs → ∀ id ∈ idsC cs, D id
  | _, _, .nil, id, hid => by cases hid
  | _, _, .cons h t, id, hid => by
    simp only [idsC, List.mem_append] at hid
    rcases hid with hid | hid
    · exact h.ids id hid
    · exact QnF t id hid
theorem FRep.on {x : FV S.K} {v : Value} (h : FRep S D φ Fz w x v) (ho : ∀ id ∈ idsC x.cells, D' id ∧ φ' id = φ id) : FRep S D' φ' Fz w x v := by
  cases x with
  | c c => exact CRep.on h (fun id hid => ho id (by simp [FV.cells, idsC, hid]))
  | a cs => obtain ⟨vs, rfl, h⟩ := h; exact ⟨vs, rfl, QpZ h ho⟩
theorem FRep.ids {x : FV S.K} {v : Value} (h : FRep S D φ Fz w x v) : ∀ id ∈ idsC x.cells, D id := by
  cases x with
  | c c => intro id hid; simp [FV.cells, idsC] at hid; exact CRep.ids h id hid
  | a cs => obtain ⟨vs, rfl, h⟩ := h; exact QnF h
theorem SRep.on {x : SV S.K} {v : Value} (h : SRep S D φ Fz w x v) (ho : ∀ id ∈ idsF x, D' id ∧ φ' id = φ id) : SRep S D' φ' Fz w x v := by
  cases x with
  | v x => exact FRep.on h ho
  | t xs =>
    obtain ⟨vs, rfl, h⟩ := h
    refine ⟨vs, rfl, ?_⟩
    have : ∀ {xs : List (FV S.K)} {vs : List Value}, All2 (FRep S D φ Fz w) xs vs → (∀ id ∈ idsF (.t xs), D' id ∧ φ' id = φ id) → All2 (FRep S D' φ' Fz w) xs vs := fun {xs vs} h => by
      induction h with
      | nil => exact fun _ => .nil
      | cons hx _ ih => exact fun ho => .cons (FRep.on hx (fun id hid => ho id (by simp [idsF, hid]))) (ih (fun id hid => ho id (List.mem_append_right _ hid)))
    exact this h ho
theorem SRep.ids {x : SV S.K} {v : Value} (h : SRep S D φ Fz w x v) : ∀ id ∈ idsF x, D id := by
  cases x with
  | v x => exact FRep.ids h
  | t xs =>
    obtain ⟨vs, rfl, h⟩ := h
    have : ∀ {xs : List (FV S.K)} {vs : List Value}, All2 (FRep S D φ Fz w) xs vs → ∀ id ∈ idsF (.t xs), D id := fun {xs vs} h => by
      induction h with
      | nil => intro id hid; cases hid
      | cons hx _ ih =>
        intro id hid
        simp only [idsF, List.foldr_cons, List.mem_append] at hid
        rcases hid with hid | hid
        · exact FRep.ids hx id hid
        · exact ih id hid
    exact this h
theorem Qmp {K : Nat → Type} : ∀ {cs : List (Cell K)} {j : Nat} {c : Cell K}, cs[j]? = some c → ∀ id ∈ c.ids, id ∈ idsC cs
  | [], _, _, h => by simp at h
  | x :: l, 0, c, h => by simp at h; subst h; intro id hid; simp [idsC, hid]
  | x :: l, j + 1, c, h => by intro id hid; simp [idsC, Qmp (cs := l) (by simpa using h) id hid]
theorem Qm7 {K : Nat → Type} : ∀ {H : List (Nat × Blk K)} {i : Nat} {own : Bool} {cs : List (Cell K)}, get H i = some (.var own cs) → ∀ id ∈ idsC cs, id ∈ idsH H
  | [], _, _, _, h => by simp [get] at h
  | (i0, b) :: l, i, own, cs, h => by
    rw [Qw] at h
    intro id hid
    split at h
    · cases h; simp [idsH, hid]
    · have := Qm7 h id hid
      cases b with
      | var _ _ => simp [idsH, this]
      | vec _ _ _ => simpa [idsH] using this
theorem Qm3 {K : Nat → Type} {sl : List (Nat × SV K)} : ∀ {ts : List Nat} {t : Nat} {v : SV K}, t ∈ ts → get sl t = some v → ∀ id ∈ idsF v, id ∈ idsK sl ts
  | t0 :: l, t, v, ht, hv, id, hid => by
    unfold idsK
    rcases List.mem_cons.1 ht with rfl | ht
    · rw [hv]; exact List.mem_append_left _ hid
    · have := Qm3 ht hv id hid
      split
      · exact List.mem_append_right _ this
      · exact this
theorem Qhq {K : Nat → Type} {sl : List (Nat × SV K)} : ∀ {ts : List Nat} {id : Nat}, id ∈ idsK sl ts → ∃ t v, t ∈ ts ∧ get sl t = some v ∧ id ∈ idsF v
  | [], _, h => by cases h
  | t0 :: l, id, h => by
    unfold idsK at h
    split at h
    · next v hv =>
      rcases List.mem_append.1 h with h | h
      · exact ⟨t0, v, by simp, hv, h⟩
      · obtain ⟨t, v, h1, h2⟩ := Qhq h; exact ⟨t, v, List.mem_cons_of_mem _ h1, h2⟩
    · obtain ⟨t, v, h1, h2⟩ := Qhq h; exact ⟨t, v, List.mem_cons_of_mem _ h1, h2⟩
theorem QjY {K : Nat → Type} {H : List (Nat × Blk K)} : ∀ {F : List Nat} {i : Nat} {own : Bool} {cs : List (Cell K)}, i ∈ F → get H i = some (.var own cs) → ∀ id ∈ idsC cs, id ∈ Qed H F
  | i0 :: l, i, own, cs, hi, hg, id, hid => by
    unfold Qed
    rcases List.mem_cons.1 hi with rfl | hi
    · rw [hg]; exact List.mem_append_left _ hid
    · have := QjY hi hg id hid
      split
      · exact List.mem_append_right _ this
      · exact this
theorem Qf3 {K : Nat → Type} {H : List (Nat × Blk K)} : ∀ {F : List Nat} {id : Nat}, id ∈ Qed H F → ∃ i own cs, get H i = some (.var own cs) ∧ id ∈ idsC cs
  | [], _, h => by cases h
  | i0 :: l, id, h => by
    unfold Qed at h
    split at h
    · next own cs hg =>
      rcases List.mem_append.1 h with h | h
      · exact ⟨i0, own, cs, hg, h⟩
      · exact Qf3 h
    · exact Qf3 h
theorem QlD {K : Nat → Type} (ts : List Nat) (t : Nat) : ∀ sl : List (Nat × SV K), get (keep ts sl) t = if t ∈ ts then get sl t else none
  | [] => by simp [keep, get]
  | (t0, v) :: l => by
    have ih := QlD ts t l
    unfold keep
    by_cases he : t = t0
    · subst he
      split
      · next hm => rw [Qw, Qw, if_pos rfl, if_pos rfl, if_pos ((mem_iff _ _).1 hm)]
      · next hm =>
        have hn : t ∉ ts := fun h => by rw [(mem_iff _ _).2 h] at hm; cases hm
        rw [ih, if_neg hn, if_neg hn]
    · split
      · rw [Qw, Qw, if_neg he, if_neg he, ih]
      · rw [Qw, if_neg he, ih]
theorem BRep.on {L : Loc} {b : Blk S.K} (h : BRep S D φ Fz w L b) (ho : ∀ own cs, b = .var own cs → ∀ id ∈ idsC cs, D' id ∧ φ' id = φ id) : BRep S D' φ' Fz w L b := by
  cases b with
  | var own cs =>
    refine ⟨h.1, fun j c hj => ?_⟩
    obtain ⟨u, h1, h2, h3⟩ := h.2 j c hj
    exact ⟨u, h1, h2.on (fun id hid => ho own cs rfl id (Qmp hj id hid)), h3⟩
  | vec own e l => exact h
theorem BRep.ids {L : Loc} {own : Bool} {cs : List (Cell S.K)} (h : BRep S D φ Fz w L (.var own cs)) : ∀ id ∈ idsC cs, D id := by
  have key : ∀ (l : List (Cell S.K)), (∀ c ∈ l, ∀ id ∈ c.ids, D id) → ∀ id ∈ idsC l, D id := by
    intro l
    induction l with
    | nil => intro _ id hid; cases hid
    | cons x l ih =>
      intro hc id hid
      simp only [idsC, List.mem_append] at hid
      rcases hid with hid | hid
      · exact hc x (by simp) id hid
      · exact ih (fun c hc' => hc c (List.mem_cons_of_mem _ hc')) id hid
  refine key cs (fun c hc => ?_)
  obtain ⟨j, hj⟩ := List.getElem?_of_mem hc
  obtain ⟨u, _, h2, _⟩ := h.2 j c hj
  exact h2.ids
theorem BRep.cellLt {L : Loc} {b : Blk S.K} (h : BRep S D φ Fz w L b) {k o : Nat} (hc : cellsOf L b k o) : k < w.heap.size := by
  cases b with
  | var own cs =>
    obtain ⟨rfl, h1, h2⟩ := hc
    obtain ⟨u, hu, _⟩ := h.2 (o - L.o) (cs[o - L.o]'(by omega)) (by rw [List.getElem?_eq_getElem])
    exact lt_of_cell hu
  | vec own e l =>
    obtain ⟨h1, rfl⟩ := hc
    obtain ⟨_, _, cur, el, fz, hh, _⟩ := h.2.2.2.2 h1
    exact lt_of_heap hh
structure RelG (S : Sig) (D : Nat → Prop) (φ : Nat → Loc) (Fz : Nat → Prop) (g : Nat → Option (Blk S.K)) (w : World) : Prop where
  dom : ∀ id b, g id = some b → D id
  rep : ∀ id b, g id = some b → BRep S D φ Fz w (φ id) b
  dis : ∀ id id' b b', g id = some b → g id' = some b' → id ≠ id' → b.own = true → ∀ k o, cellsOf (φ id) b k o → ¬ cellsOf (φ id') b' k o
  fz : ∀ id b, g id = some b → b.own = true → ∀ k o, cellsOf (φ id) b k o → ¬ Fz k
  lt : ∀ k, Fz k → k < w.heap.size
  inv : Q7l S.fixd Fz w
theorem RelG.rel {g : Nat → Option (Blk S.K)} (h : RelG S D φ Fz g w) {l : List (Nat × Blk S.K)} (hs : ∀ id b, get l id = some b → g id = some b) (hd : ∀ id b, get l id = some b → D' id) (hi : ∀ id own cs, get l id = some (.var own cs) → ∀ i ∈ idsC cs, D' i) : Rel S D' φ Fz l w where
  dom := hd
  rep := fun id b hb => (h.rep id b (hs id b hb)).on (fun own cs he i hid => ⟨hi id own cs (he ▸ hb) i hid, rfl⟩)
  dis := fun id id' b b' h1 h2 => h.dis id id' b b' (hs _ _ h1) (hs _ _ h2)
  fz := fun id b h1 => h.fz id b (hs _ _ h1)
  lt := h.lt
  inv := h.inv
def OCG {K : Nat → Type} (φ : Nat → Loc) (g : Nat → Option (Blk K)) (k o : Nat) : Prop := ∃ id b, g id = some b ∧ b.own = true ∧ cellsOf (φ id) b k o
theorem Q5X {K : Nat → Type} {F : List Nat} {h : List (Nat × Blk K)} {g : Nat → Option (Blk K)} {id : Nat} {b : Blk K} (hb : updG F h g id = some b) : get h id = some b ∨ (id ∉ F ∧ get h id = none ∧ g id = some b) := by
  unfold updG at hb
  split at hb
  · next h1 => cases hb; exact .inl h1
  · next h1 =>
    split at hb
    · cases hb
    · next hm => exact .inr ⟨fun h => (by rw [(mem_iff _ _).2 h] at hm; cases hm), h1, hb⟩
end
end Go.Ve
namespace Go.Ve
open Go.RowKit Go.Lib
set_option linter.unusedVariables false
set_option linter.unusedSimpArgs false
section
variable {P : Program} {E : Env} {orc : Orc E} {A : Q04} {ops : Array Oper} {ss : Nat → St E.S.K} {ev : Nat → Ev E.S.K}
variable (ops ss ev) in
def DL (L : Nat → Bool) (id : Nat) : Prop := id < (ss 0).nx ∨ ∃ j, j < ops.size ∧ L j = true ∧ (ev j).w = true ∧ (ss j).nx ≤ id ∧ id < (ev j).st.nx
theorem DL.more {L : Nat → Bool} {q : Nat} {id : Nat} (h : DL ops ss ev L id) : DL ops ss ev (more L q) id := by
  rcases h with h | ⟨j, h1, h2, h3⟩
  · exact .inl h
  · exact .inr ⟨j, h1, by unfold Ve.more; split <;> first | rfl | exact h2, h3⟩
theorem DL.old (H : Hst E orc A ops ss ev) {L : Nat → Bool} {q : Nat} (hq : q < ops.size) (hw : (ev q).w = true) (hL : L q = false) {id : Nat} (h : DL ops ss ev L id) : ¬ ((ss q).nx ≤ id ∧ id < (ev q).st.nx) := by
  rintro ⟨g1, g2⟩
  rcases h with h | ⟨j, h1, h2, h3, h4, h5⟩
  · have := H.nx (Nat.zero_le q) (by omega); omega
  · rcases Nat.lt_trichotomy j q with hlt | rfl | hgt
    · have := H.nx (show j + 1 ≤ q by omega) (by omega)
      rw [(H.set h1).2.1, if_pos h3] at this
      omega
    · rw [hL] at h2; cases h2
    · have := H.nx (show q + 1 ≤ j by omega) (by omega)
      rw [(H.set hq).2.1, if_pos hw] at this
      omega
variable (ops ss ev) in
structure Now (φs : Nat → Loc) (Fzs : Nat → Prop) (ws : World) (as_ : Act) (L : Nat → Bool) (a : Act) (w : World) (φ : Nat → Loc) (Fz : Nat → Prop) : Prop where
  rel : RelG E.S (DL ops ss ev L) φ Fz (G ss ev L ops.size) w
  slots : ∀ t v, V ss ev L ops.size t = some v → SRep E.S (DL ops ss ev L) φ Fz w v (a.tmps.getD t undef)
  agree : ∀ id, id < (ss 0).nx → φ id = φs id
  fz : ∀ k, Fzs k → Fz k
  fzb : ∀ k, Fz k → Fzs k ∨ (∀ o, OC φs (ss 0).heap k o) ∨ ws.heap.size ≤ k
  own : ∀ k o, OCG φ (G ss ev L ops.size) k o → OC φs (ss 0).heap k o ∨ ws.heap.size ≤ k
  chg : Chg (OC φs (ss 0).heap) ws w
  defers : a.defers = as_.defers
  size : a.tmps.size = as_.tmps.size
theorem SRep.lit {S : Sig} {D : Nat → Prop} {φ : Nat → Loc} {Fz : Nat → Prop} {w : World} {a b : Option (SV S.K)} (h : Rfo a b) {v : SV S.K} (hb : b = some v) {u : Value} (ha : ∀ x, a = some x → SRep S D φ Fz w x u) : SRep S D φ Fz w v u := by
  rcases h with rfl | ⟨c, rfl, rfl⟩
  · exact ha v hb
  · cases hb
    have h : TRep _ _ _ _ _ := ha _ rfl
    cases h
    exact TRep.lit c
theorem Qos {φ : Nat → Loc} {Fz : Nat → Prop} {a : Act} {w : World} {D : Nat → Prop} {o : Oper} {sl : List (Nat × SV E.S.K)} {b : Bool} (hw : Want ops o sl b)
    (hs : ∀ t v, t ∈ o.looksAt ops → get sl t = some v → SRep E.S D φ Fz w v (a.tmps.getD t undef)) : Region.wanted o (yielded ops a.tmps) = b := by
  unfold Want at hw
  unfold Region.wanted
  split at hw
  · next hg => rw [hg]; exact hw.symm
  · next j want hg =>
    rw [hg]
    obtain ⟨oj, d, hj, hd, h⟩ := hw
    have hmem : d ∈ o.looksAt ops := by
      unfold Oper.looksAt
      rw [hg]
      refine List.mem_append_right _ ?_
      simp [hj, hd]
    obtain ⟨hy1, hy2⟩ := QhO (T := a.tmps) hj hd
    rcases h with ⟨c, hc, rfl⟩ | ⟨hc, rfl⟩
    · have h : TRep _ _ _ _ _ := hs d _ hmem hc
      have hv : a.tmps.getD d undef = .bool c := by
        generalize a.tmps.getD d undef = u at h
        cases h
        rfl
      dsimp only
      rw [hy1 c hv]
      cases c <;> cases want <;> decide
    · obtain ⟨vs, hv, hall⟩ := hs d _ hmem hc
      have : vs = [] := List.eq_nil_of_length_eq_zero hall.len.symm
      subst this
      dsimp only
      rw [hy2 hv]
      cases want <;> decide
theorem Q6F : ∀ {l : List Operand} {t : Nat}, t ∈ tmpsOf l → t ∈ l.filterMap (fun | .tmp t => some t | _ => none)
  | [], t, h => by cases h
  | .tmp t0 :: l, t, h => by
    rcases List.mem_cons.1 h with rfl | h
    · simp
    · simp only [List.filterMap_cons]; exact List.mem_cons_of_mem _ (Q6F h)
  | .const _ :: l, t, h => by simp only [List.filterMap_cons]; exact Q6F (l := l) h
  | .global _ :: l, t, h => by simp only [List.filterMap_cons]; exact Q6F (l := l) h
  | .func _ :: l, t, h => by simp only [List.filterMap_cons]; exact Q6F (l := l) h
set_option maxHeartbeats 1000000 in
theorem Now.step (hE : Q0r P E) (hO : Q8a P E orc) (H : Hst E orc A ops ss ev) {φs : Nat → Loc} {Fzs : Nat → Prop} {ws : World} {as_ : Act} (hn : A.fn.ntmps ≤ as_.tmps.size) {Q : Exit → Act → World → Prop}
    {L : Nat → Bool} {q : Nat} {o : Oper} {a : Act} {w : World} (ho : ops[q]? = some o) (hL : L q = false) (hC : Closed ops L) (hr : ∀ e ∈ o.after, Region.binds .any e = true → L e.on = true)
    (hI : ∃ φ Fz, Now ops ss ev φs Fzs ws as_ L a w φ Fz) : wpOp P ops Q q (fun a w => ∃ φ Fz, Now ops ss ev φs Fzs ws as_ (more L q) a w φ Fz) a w := by
  obtain ⟨φ, Fz, hN⟩ := hI
  have hq : q < ops.size := (Array.getElem?_eq_some_iff.1 ho).1
  have hd := H.did q hq
  obtain rfl : o = (ev q).o := Option.some.inj (ho.symm.trans hd.op)
  have hC' : Closed ops (more L q) := QcR hC (fun o' ho' => by rw [ho] at ho'; cases ho'; exact hr)
  have hB : ∀ j, j ≠ q → bit (masks ops.toList 0 []) j q = true → L j = true := Bef.ready hC ho hr
  have hsl : ∀ t v, t ∈ (ev q).o.looksAt ops → get (ev q).sl t = some v → SRep E.S (DL ops ss ev L) φ Fz w v (a.tmps.getD t undef) := fun t v ht hv =>
    SRep.lit (H.keyW hC hq hL hB ht ops.size (by omega) (Nat.le_refl _)) hv (hN.slots t)
  have hwant := Qos hd.want hsl
  unfold wpOp
  rw [ho]
  dsimp only
  rw [hwant]
  cases hw : (ev q).w with
  | false =>
    rw [if_neg (by decide)]
    obtain ⟨hv, hset⟩ := hd.no hw
    have hD : ∀ id, DL ops ss ev L id → DL ops ss ev (more L q) id := fun id h => h.more
    have hG : G ss ev (more L q) ops.size = G ss ev L ops.size := QjU hw _
    refine ⟨φ, Fz, ⟨?_, ?_, hN.agree, hN.fz, hN.fzb, by rw [hG]; exact hN.own, hN.chg, by rw [Q7V]; exact hN.defers, by rw [Q6G]; exact hN.size⟩⟩
    · rw [hG]
      exact ⟨fun id b h => hD id (hN.rel.dom id b h), fun id b h => (hN.rel.rep id b h).more (fun _ h => h) hD (fun _ _ => rfl), hN.rel.dis, hN.rel.fz, hN.rel.lt, hN.rel.inv⟩
    · intro t v hv'
      rw [H.keyV hC hq hL t ops.size hq (Nat.le_refl _)] at hv'
      have hput : (a.put (ev q).o.dst undef).tmps.getD t undef = if (ev q).o.dst = some t then undef else a.tmps.getD t undef := by
        cases hdst : (ev q).o.dst with
        | none => simp [Act.put]
        | some d =>
          by_cases he : d = t
          · subst he
            rw [if_pos rfl, Q6k]
            simp only [Act.put, Array.getElem?_setIfInBounds]
            simp
            split <;> rfl
          · rw [if_neg (fun e => he (Option.some.inj e)), Q6k, Q6k]
            simp [Act.put, Array.getElem?_setIfInBounds_ne he]
      rw [hput]
      split at hv'
      · next he => cases hv'; rw [if_pos he, hv]; exact ⟨[], rfl, .nil⟩
      · next he =>
        rw [if_neg he]
        exact SRep.keep (Chg.refl (fun _ _ => False) w) (fun _ _ h => h.elim) (fun _ h => h) hD (fun _ _ => rfl) (hN.slots t v hv')
  | true =>
    rw [if_pos rfl]
    refine .inl ?_
    obtain ⟨hp, hst, hset⟩ := hd.yes hw
    obtain ⟨hFlt, hnxle, hkeys⟩ := H.stays hq hw
    have hvh : ∀ id b, get (view (ftp ss ev q) (ev q).o { ss q with slots := (ev q).sl }).heap id = some b → id ∈ ftp ss ev q ∧ get (ss q).heap id = some b := fun id b h => by
      have h' : get (part (ftp ss ev q) true (ss q).heap) id = some b := h
      rw [QbF] at h'
      split at h'
      · next hm => exact ⟨(mem_iff _ _).1 hm, h'⟩
      · cases h'
    have hvG : ∀ id b, get (view (ftp ss ev q) (ev q).o { ss q with slots := (ev q).sl }).heap id = some b → G ss ev L ops.size id = some b := fun id b h => by
      obtain ⟨h1, h2⟩ := hvh id b h
      rw [H.keyB hC hq hw hL hB h1 ops.size (by omega) (Nat.le_refl _)]
      exact h2
    have hvs : ∀ t v, get (view (ftp ss ev q) (ev q).o { ss q with slots := (ev q).sl }).slots t = some v → t ∈ tmpsOf (ev q).o.op.operands.toList ∧ SRep E.S (DL ops ss ev L) φ Fz w v (a.tmps.getD t undef) := fun t v h => by
      have h' : get (keep (tmpsOf (ev q).o.op.operands.toList) (ev q).sl) t = some v := h
      rw [QlD] at h'
      split at h'
      · next hm => exact ⟨hm, hsl t v (by unfold Oper.looksAt; exact List.mem_append_left _ (Q6F hm)) h'⟩
      · cases h'
    unfold stays at hst
    simp only [Bool.and_eq_true] at hst
    obtain ⟨⟨⟨⟨_, hU⟩, _⟩, hin⟩, _⟩ := hst
    have hUlt := Qfr hU
    have hin := Qke hin
    have hUD : ∀ id ∈ sees (ftp ss ev q) (ev q).o (view (ftp ss ev q) (ev q).o { ss q with slots := (ev q).sl }), DL ops ss ev L id := fun id hid => by
      rcases List.mem_append.1 hid with hid | hid
      · obtain ⟨t, v, h1, h2, h3⟩ := Qhq hid
        exact (hvs t v h2).2.ids id h3
      · obtain ⟨i, own, cs, h1, h2⟩ := Qf3 hid
        exact (hN.rel.rep i _ (hvG i _ h1)).ids id h2
    have hI : Inv E.S φ Fz (view (ftp ss ev q) (ev q).o { ss q with slots := (ev q).sl }) a.tmps w := by
      refine ⟨hN.rel.rel hvG (fun id b h => hFlt id (hvh id b h).1) (fun id own cs h i hi => ?_), fun t v hv => ?_⟩
      · exact hUlt i (List.mem_append_right _ (QjY (hvh id _ h).1 h i hi))
      · obtain ⟨h1, h2⟩ := hvs t v hv
        exact h2.on (fun id hid => ⟨hUlt id (List.mem_append_left _ (Qm3 h1 hv id hid)), rfl⟩)
    refine QjP hE hO hI hp ?_
    intro v' st' φ' Fz' x w' hk hAf hx
    obtain ⟨rfl, rfl⟩ : v' = (ev q).v ∧ st' = (ev q).st := by
      have := Option.some.inj hk
      exact ⟨congrArg Prod.fst this, congrArg Prod.snd this⟩
    have hold : ∀ id, DL ops ss ev L id → ¬ ((ss q).nx ≤ id ∧ id < (ev q).st.nx) := fun id h => h.old H hq hw hL
    let φ2 : Nat → Loc := fun id => if (ss q).nx ≤ id ∧ id < (ev q).st.nx then φ' id else φ id
    have hφold : ∀ id, DL ops ss ev L id → φ2 id = φ id := fun id h => if_neg (hold id h)
    have hφlt : ∀ id, id < (ss q).nx → φ' id = φ id := fun id h => hAf.agree id h
    have hφF : ∀ id, id < (ss q).nx → φ2 id = φ' id := fun id h => by rw [hφlt id h]; exact if_neg (fun h' => by omega)
    have hφnew : ∀ id, (ss q).nx ≤ id → id < (ev q).st.nx → φ2 id = φ' id := fun id h h' => if_pos ⟨h, h'⟩
    have hDm : ∀ id, DL ops ss ev L id → DL ops ss ev (more L q) id := fun id h => h.more
    have hDn : ∀ id, (ss q).nx ≤ id → id < (ev q).st.nx → DL ops ss ev (more L q) id := fun id h h' => .inr ⟨q, hq, by simp [more], hw, h, h'⟩
    have hres : ∀ id ∈ idsF (ev q).v ++ idsH (ev q).st.heap, DL ops ss ev (more L q) id ∧ φ2 id = φ' id := fun id hid => by
      rcases hin id hid with h | ⟨h, h'⟩
      · exact ⟨hDm id (hUD id h), hφF id (hUlt id h)⟩
      · exact ⟨hDn id h h', hφnew id h h'⟩
    have hG : ∀ id, G ss ev (more L q) ops.size id = updG (ftp ss ev q) (ev q).st.heap (G ss ev L ops.size) id := fun id => H.keyC hC hq hw hL hC' id ops.size hq (Nat.le_refl _)
    have tch : ∀ id b, get (ev q).st.heap id = some b → DL ops ss ev (more L q) id ∧ φ2 id = φ' id := fun id b h => by
      rcases hkeys id b h with ⟨h1, b0, h2, _⟩ | ⟨h1, h2, _⟩
      · have hg : G ss ev L ops.size id = some b0 := by rw [H.keyB hC hq hw hL hB h1 ops.size (by omega) (Nat.le_refl _)]; exact h2
        exact ⟨hDm id (hN.rel.dom id b0 hg), hφF id (hFlt id h1)⟩
      · exact ⟨hDn id h1 h2, hφnew id h1 h2⟩
    have utO : ∀ id b, id ∉ ftp ss ev q → G ss ev L ops.size id = some b → ∀ k o, cellsOf (φ id) b k o → ¬ OC φ (view (ftp ss ev q) (ev q).o { ss q with slots := (ev q).sl }).heap k o := fun id b hid hb k o hc ⟨id', b', h1, h2, h3⟩ =>
      hN.rel.dis id' id b' b (hvG id' b' h1) hb (fun e => hid (e ▸ (hvh id' b' h1).1)) h2 k o h3 hc
    have utFz : ∀ id b, id ∉ ftp ss ev q → G ss ev L ops.size id = some b → b.own = true → ∀ k o, cellsOf (φ id) b k o → ¬ Fz' k := fun id b hid hb ho k o hc hf => by
      rcases hAf.fzb k hf with h | h | h
      · exact hN.rel.fz id b hb ho k o hc h
      · exact utO id b hid hb k o hc (h o)
      · have := (hN.rel.rep id b hb).cellLt hc; omega
    have TU : ∀ id id' b b', get (ev q).st.heap id = some b → id' ∉ ftp ss ev q → G ss ev L ops.size id' = some b' → b.own = true → ∀ k o, cellsOf (φ' id) b k o → ¬ cellsOf (φ id') b' k o := fun id id' b b' h1 h2 h3 ho k o hc hc' => by
      rcases hAf.own k o ⟨id, b, h1, ho, hc⟩ with h | h
      · exact utO id' b' h2 h3 k o hc' h
      · have := (hN.rel.rep id' b' h3).cellLt hc'; omega
    have hOCG : ∀ k o, OC φ (view (ftp ss ev q) (ev q).o { ss q with slots := (ev q).sl }).heap k o → OCG φ (G ss ev L ops.size) k o := fun k o ⟨id, b, h1, h2, h3⟩ => ⟨id, b, hvG id b h1, h2, h3⟩
    have hown : ∀ k o, OCG φ2 (G ss ev (more L q) ops.size) k o → OCG φ (G ss ev L ops.size) k o ∨ w.heap.size ≤ k := fun k o ⟨id, b, h1, h2, h3⟩ => by
      rw [hG] at h1
      rcases Q5X h1 with h | ⟨g1, g2, g3⟩
      · rw [(tch id b h).2] at h3
        exact (hAf.own k o ⟨id, b, h, h2, h3⟩).imp (hOCG k o) (fun h => h)
      · rw [hφold id (hN.rel.dom id b g3)] at h3
        exact .inl ⟨id, b, g3, h2, h3⟩
    have hO' := hI.rel.notFz
    refine ⟨φ2, Fz', ⟨?_, ?_, ?_, fun k h => hAf.fz k (hN.fz k h), ?_, ?_, ?_, by rw [Q7V]; exact hN.defers, by rw [Q6G]; exact hN.size⟩⟩
    · refine ⟨fun id b h => ?_, fun id b h => ?_, fun id id' b b' h h' hne ho k o hc hc' => ?_, fun id b h ho k o hc => ?_, hAf.rel.lt, hAf.rel.inv⟩
      · rw [hG] at h
        rcases Q5X h with h | ⟨g1, g2, g3⟩
        · exact (tch id b h).1
        · exact hDm id (hN.rel.dom id b g3)
      · rw [hG] at h
        rcases Q5X h with h | ⟨g1, g2, g3⟩
        · rw [(tch id b h).2]
          exact (hAf.rel.rep id b h).on (fun own cs he i hi => hres i (List.mem_append_right _ (Qm7 (he ▸ h) i hi)))
        · rw [hφold id (hN.rel.dom id b g3)]
          exact BRep.keep hAf.chg hO' hAf.fz hDm hφold (fun k o hc => utO id b g1 g3 k o hc) (hN.rel.rep id b g3)
      · rw [hG] at h h'
        rcases Q5X h with h | ⟨g1, g2, g3⟩
        · rw [(tch id b h).2] at hc
          rcases Q5X h' with h' | ⟨g1', g2', g3'⟩
          · rw [(tch id' b' h').2] at hc'
            exact hAf.rel.dis id id' b b' h h' hne ho k o hc hc'
          · rw [hφold id' (hN.rel.dom id' b' g3')] at hc'
            exact TU id id' b b' h g1' g3' ho k o hc hc'
        · rw [hφold id (hN.rel.dom id b g3)] at hc
          rcases Q5X h' with h' | ⟨g1', g2', g3'⟩
          · rw [(tch id' b' h').2] at hc'
            cases ho' : b'.own with
            | true => exact TU id' id b' b h' g1 g3 ho' k o hc' hc
            | false =>
              cases b' with
              | var own cs =>
                cases ho'
                rcases hkeys id' _ h' with ⟨h1, b0, h2, h3⟩ | ⟨_, _, h3⟩
                · obtain ⟨own0, cs0, rfl, hlen⟩ := h3 cs rfl
                  have hg : G ss ev L ops.size id' = some (.var own0 cs0) := by rw [H.keyB hC hq hw hL hB h1 ops.size (by omega) (Nat.le_refl _)]; exact h2
                  rw [hφlt id' (hFlt id' h1)] at hc'
                  exact hN.rel.dis id id' b _ g3 hg hne ho k o hc ⟨hc'.1, hc'.2.1, by rw [← hlen]; exact hc'.2.2⟩
                · exact h3 cs rfl
              | vec own e l =>
                cases ho'
                have := ((hAf.rel.rep id' _ h').2.2.2.2 hc'.1).2.1 rfl
                rw [← hc'.2] at this
                exact utFz id b g1 g3 ho k o hc this
          · rw [hφold id' (hN.rel.dom id' b' g3')] at hc'
            exact hN.rel.dis id id' b b' g3 g3' hne ho k o hc hc'
      · rw [hG] at h
        rcases Q5X h with h | ⟨g1, g2, g3⟩
        · rw [(tch id b h).2] at hc
          exact hAf.rel.fz id b h ho k o hc
        · rw [hφold id (hN.rel.dom id b g3)] at hc
          exact utFz id b g1 g3 ho k o hc
    · intro t v hv
      rw [H.keyV hC hq hL t ops.size hq (Nat.le_refl _)] at hv
      split at hv
      · next he =>
        cases hv
        have hlt : t < a.tmps.size := by
          unfold Q4i at hset
          rw [he] at hset
          dsimp only at hset
          cases hb : Nat.blt t A.fn.ntmps with
          | false => rw [hb] at hset; cases hset
          | true =>
            have := Nat.le_of_ble_eq_true hb
            have := hN.size
            omega
        have : (a.put (ev q).o.dst x).tmps.getD t undef = x := by rw [he, Q6k]; simp [Act.put, hlt]
        rw [this]
        exact hx.on (fun id hid => hres id (List.mem_append_left _ hid))
      · next he =>
        have : (a.put (ev q).o.dst x).tmps.getD t undef = a.tmps.getD t undef := by
          cases hdst : (ev q).o.dst with
          | none => rfl
          | some d =>
            have hne : d ≠ t := fun e => he (by rw [hdst, e])
            rw [Q6k, Q6k]
            simp [Act.put, Array.getElem?_setIfInBounds_ne hne]
        rw [this]
        exact SRep.keep hAf.chg hO' hAf.fz hDm hφold (hN.slots t v hv)
    · intro id hid
      have := H.nx (Nat.zero_le q) (by omega)
      rw [← hN.agree id hid]
      exact if_neg (fun h => by omega)
    · intro k hk
      rcases hAf.fzb k hk with h | h | h
      · exact hN.fzb k h
      · rcases Nat.lt_or_ge k ws.heap.size with hlt | hge
        · exact .inr (.inl fun o => (hN.own k o (hOCG k o (h o))).resolve_right (by omega))
        · exact .inr (.inr hge)
      · exact .inr (.inr (Nat.le_trans hN.chg.size h))
    · intro k o h
      rcases hown k o h with h | h
      · exact hN.own k o h
      · exact .inr (Nat.le_trans hN.chg.size h)
    · exact hN.chg.trans' hAf.chg (fun k o hk h => (hN.own k o (hOCG k o h)).resolve_right (by omega))
end
theorem Qm1 {K : Env} {ss : Nat → St K.S.K} {ev : Nat → Ev K.S.K} : ∀ m, G ss ev (fun _ => false) m = get (ss 0).heap
  | 0 => rfl
  | m + 1 => by rw [G, Qm1 m]; simp
theorem Qpe {K : Env} {ss : Nat → St K.S.K} {ev : Nat → Ev K.S.K} : ∀ m, V ss ev (fun _ => false) m = get (ss 0).slots
  | 0 => rfl
  | m + 1 => by rw [V, Qpe m]; simp
theorem QqT {P : Program} {E : Env} (hE : Q0r P E) : Qfw P E := by
  intro R orc hO A φ0 Fz0 H0 w0 ops k r id st φ Fz a w h hI hC hn b todo Res hk
  obtain ⟨ss, ev, hs0, hdid, hfin, heok, hsok, _, hpr, _⟩ := Qhr _ h
  have hsz : (List.range ops.size).length = ops.size := List.length_range
  have hat : ∀ q, q < ops.size → (List.range ops.size)[q]? = some q := fun q hq => by rw [List.getElem?_range hq]
  have H : Hst E orc A ops ss ev := ⟨fun q hq => hdid q q (hat q hq), heok, hsok, fun q q' hlt hq' => hpr q q' q q' hlt (hat q (by omega)) (hat q' hq')⟩
  rw [hsz] at hfin
  subst hs0
  have hCh := Chg.drew (fun _ _ => False) w
  have hI1 : Inv E.S φ Fz (ss 0) a.tmps w.drew :=
    ⟨⟨hI.rel.dom, fun id b h => BRep.keep hCh (fun _ _ h => h.elim) (fun _ h => h) (fun _ h => h) (fun _ _ => rfl) (fun _ _ _ h => h) (hI.rel.rep id b h), hI.rel.dis, hI.rel.fz, hI.rel.lt, hI.rel.inv.keep hCh (fun _ _ h => h.elim) (fun _ h => h)⟩,
      Qal.keep hCh (fun _ _ h => h.elim) (fun _ h => h) (fun _ h => h) (fun _ _ => rfl) hI.slots⟩
  have hno : (fun j => (Array.replicate ops.size false).getD j false) = fun _ => false := funext fun j => by
    rw [Array.getD_eq_getD_getElem?, Array.getElem?_replicate]; split <;> rfl
  have hC1 : Ctx E.S A φ0 Fz0 H0 w0 φ Fz (ss 0) w.drew := ⟨hC.nx, hC.entry, hC.entryV, hC.fz, hC.fzb, hC.own, hC.chg.trans' (Chg.drew (fun _ _ => False) w) (fun _ _ _ h => h.elim)⟩
  intro cs
  obtain ⟨e, a', w', ⟨rfl, φ', Fz', hK⟩, harr⟩ := wp_region_any (id := id) (Q := fun e a' w' => e = .normal ∧ ∃ φ' Fz', Kept E.S A φ0 Fz0 H0 w0 a k r φ' Fz' a' w') hE.mixed (by
    refine Qoa (fun j o ho e he hb => ?_) (fun L a' w' => ∃ φ' Fz', Now ops ss ev φ Fz w.drew a L a' w' φ' Fz') (fun L i o a' w' ho hL hCl hr _ hI' => Now.step hE hO H hn ho hL hCl hr hI') (fun L a' w' hL hI' => ?_) ops.size _ a w.drew (by simp) ?_ ?_ ?_
    · have := Qll heok (q := j) (o := o) (by rw [Array.getElem?_toList]; exact ho) e he hb
      omega
    · obtain ⟨φ', Fz', hN⟩ := hI'
      have hall : ∀ j, j < ops.size → L j = true := fun j hj => (hL j).1 hj
      have hD : ∀ id, DL ops ss ev L id → id < (ss ops.size).nx := fun id h => by
        rcases h with h | ⟨j, h1, _, h3, _, h5⟩
        · have := H.nx (Nat.zero_le ops.size) (Nat.le_refl _); omega
        · have := H.nx (show j + 1 ≤ ops.size by omega) (Nat.le_refl _)
          rw [(H.set h1).2.1, if_pos h3] at this
          omega
      have hGe : ∀ id, G ss ev L ops.size id = get (ss ops.size).heap id := fun id => H.allG hall id _ (Nat.le_refl _)
      have hRel : Rel E.S (fun i => i < (ss ops.size).nx) φ' Fz' (ss ops.size).heap w' := hN.rel.rel (fun id b h => by rw [hGe]; exact h) (fun id b h => hD id (hN.rel.dom id b (by rw [hGe]; exact h))) (fun id own cs h i hi => hD i ((hN.rel.rep id _ (by rw [hGe]; exact h)).ids i hi))
      have hAf : After E.S φ Fz (ss 0) w.drew φ' Fz' { ss ops.size with slots := (ss 0).slots } w' :=
        ⟨hRel, H.nx (Nat.zero_le _) (Nat.le_refl _), rfl, hN.agree, hN.fz, hN.fzb, fun k o ⟨id, b, h1, h2, h3⟩ => hN.own k o ⟨id, b, by rw [hGe]; exact h1, h2, h3⟩, hN.chg⟩
      refine ⟨rfl, φ', Fz', ss ops.size, hfin, ⟨hRel, fun t v hv => ?_⟩, (hC1.after hAf).slots rfl rfl, hN.defers, hN.size⟩
      exact SRep.lit (H.allV hall t ops.size (Nat.le_refl _)) hv (fun x hx => (hN.slots t x hx).on (fun id hid => ⟨hD id ((hN.slots t x hx).ids id hid), rfl⟩))
    · rw [hno]; intro j o hj; cases hj
    · rw [hno]
      refine ⟨φ, Fz, ⟨?_, ?_, fun _ _ => rfl, fun _ h => h, fun _ h => .inl h, ?_, Chg.refl _ _, rfl, rfl⟩⟩
      · rw [Qm1]
        exact ⟨fun id b h => .inl (hI1.rel.dom id b h), fun id b h => (hI1.rel.rep id b h).more (fun _ h => h) (fun _ h => .inl h) (fun _ _ => rfl), hI1.rel.dis, hI1.rel.fz, hI1.rel.lt, hI1.rel.inv⟩
      · intro t v hv
        rw [Qpe] at hv
        exact SRep.keep (Chg.refl (fun _ _ => False) _) (fun _ _ h => h.elim) (fun _ h => h) (fun _ h => .inl h) (fun _ _ => rfl) (hI1.slots t v hv)
      · rw [Qm1]
        exact fun k o h => .inl h
    · exact Nat.le_trans (List.length_filter_le _ _) (by simp)) b todo cs
  obtain ⟨v, w2, fr, h1, h2, h3⟩ := hk φ' Fz' a' w' hK cs
  exact ⟨v, w2, fr, h1, Steps.trans harr h2, h3⟩
end Go.Ve
namespace Go.Ve
set_option linter.unusedVariables false
set_option linter.unusedSimpArgs false
def fieldsOf (P : Program) : List Field → Option (List (Nat × Nat × Nat))
  | [] => some []
  | f :: l =>
    match P.info? f.type, fieldsOf P l with
    | some i, some r => some ((f.offset, f.type, i.size) :: r)
    | _, _ => none
def tkOf (P : Program) : TypeDesc → Option TK
  | .int k => some (.int k)
  | .bool => some .bool
  | .string => some .str
  | .slice e => some (.slice e)
  | .pointer e => some (.ptr e)
  | .func _ _ _ => some .func
  | .struct fs => (fieldsOf P fs.toList).map .struct
  | .array n e =>
    match P.info? e with
    | some i =>
      match Nat.decEq i.size 1 with
      | isTrue _ => some (.array n e)
      | isFalse _ => some .other
    | none => some .other
  | _ => some .other
def tdOf (P : Program) (t : Nat) : Option TD :=
  match P.info? t, P.underlying t with
  | some i, some d =>
    match i.zero, tkOf P d with
    | some z, some k => chk (Nat.beq z.cells.toList.length i.size) (some { kind := k, size := i.size, bytes := i.bytes, agg := QaF d, zero := z.cells.toList })
    | _, _ => none
  | _, _ => none
theorem Qgp {P : Program} : ∀ {l : List Field} {fs : List (Nat × Nat × Nat)}, fieldsOf P l = some fs → l.length = fs.length ∧ ∀ (j off ft sz : Nat), fs[j]? = some (off, ft, sz) → ∃ f i, l[j]? = some f ∧ f.offset = off ∧ f.type = ft ∧ P.info? ft = some i ∧ i.size = sz
  | [], fs, h => by cases h; exact ⟨rfl, fun j off ft sz h => by simp at h⟩
  | f :: l, fs, h => by
    unfold fieldsOf at h
    split at h
    · next i r hi hr =>
      cases h
      obtain ⟨h1, h2⟩ := Qgp hr
      refine ⟨by simp [h1], fun j off ft sz h => ?_⟩
      cases j with
      | zero =>
        simp only [List.getElem?_cons_zero, Option.some.injEq, Prod.mk.injEq] at h
        obtain ⟨rfl, rfl, rfl⟩ := h
        exact ⟨f, i, rfl, rfl, rfl, hi, rfl⟩
      | succ j => exact h2 j off ft sz (by simpa using h)
    · cases h
theorem Qrn {P : Program} {d : TypeDesc} {k : TK} (h : tkOf P d = some k) : Q9n P k d := by
  unfold tkOf at h
  split at h
  · cases h; rfl
  · cases h; rfl
  · cases h; rfl
  · cases h; rfl
  · cases h; rfl
  · cases h; exact ⟨_, _, _, rfl⟩
  · next fs =>
    cases hf : fieldsOf P fs.toList with
    | none => rw [hf] at h; cases h
    | some l =>
      rw [hf] at h
      cases h
      obtain ⟨h1, h2⟩ := Qgp hf
      refine ⟨fs, rfl, by simpa using h1, fun j off ft sz h => ?_⟩
      obtain ⟨f, i, g1, g2⟩ := h2 j off ft sz h
      exact ⟨f, i, by simpa using g1, g2⟩
  · split at h
    · next i hi =>
      split at h
      · next h1 _ => cases h; exact ⟨rfl, i, hi, h1⟩
      · cases h; trivial
    · cases h; trivial
  · cases h; trivial
theorem Qra {P : Program} {t : Nat} {td : TD} (h : tdOf P t = some td) : TDok P t td := by
  unfold tdOf at h
  split at h
  · next i d hi hd =>
    split at h
    · next z k hz hk =>
      cases hb : Nat.beq z.cells.toList.length i.size with
      | false => rw [hb] at h; cases h
      | true =>
        rw [hb] at h
        cases h
        exact ⟨i, d, z, hi, hd, rfl, rfl, rfl, hz, rfl, Q03 hb, Qrn hk⟩
    · cases h
  · cases h
def ofB (s : ByteArray) : List Int := s.data.toList.map fun b => (b.toNat : Int)
def toB (l : List Int) : ByteArray := ⟨(l.map fun n => UInt8.ofNat n.toNat).toArray⟩
theorem ofB_len (s : ByteArray) : (ofB s).length = s.size := by unfold ofB; rw [List.length_map, Array.length_toList]; rfl
theorem ofB_at {s : ByteArray} {i : Nat} {x : Int} (h : (ofB s)[i]? = some x) : ∃ b, s.data[i]? = some b ∧ x = b.toNat := by
  unfold ofB at h
  rw [List.getElem?_map] at h
  cases hb : s.data.toList[i]? with
  | none => rw [hb] at h; cases h
  | some b => rw [hb] at h; cases h; exact ⟨b, by simpa using hb, rfl⟩
theorem Qry {l ns : List Int} (h : ∀ (i : Nat) (x : Int), l[i]? = some x → ns[i]? = some x) (hl : ns.length = l.length) : toB l = ⟨(ns.map fun n => UInt8.ofNat n.toNat).toArray⟩ := by
  have : ns = l := by
    apply List.ext_getElem?
    intro i
    cases hx : l[i]? with
    | none => rw [List.getElem?_eq_none_iff] at hx ⊢; omega
    | some x => rw [h i x hx]
  subst this
  rfl
end Go.Ve
namespace Go.Ve
set_option linter.unusedVariables false
set_option linter.unusedSimpArgs false
structure Ann where
  inL : Lay
  outL : Lay
  labels : List (Nat × Lay) := []
  site : Nat → Nat := fun _ => 0
  fuel : Nat := 2000
def Qlb : List (Nat × Nat × Ann) → Nat → Nat → Option Ann
  | [], _, _ => none
  | (f', m', a) :: l, f, m =>
    match Nat.beq f' f && Nat.beq m' m with
    | true => some a
    | false => Qlb l f m
def QfF (P : Program) (L : List (Nat × Nat × Ann)) (f m : Nat) : Option Q04 :=
  match Qlb L f m with
  | some a => some { fn := (P.funcs[f]?).getD default, inL := a.inL, outL := a.outL, labels := a.labels, site := a.site, fuel := a.fuel }
  | none => none
def rowOk (P : Program) (f : Nat) : Bool :=
  match P.funcs[f]? with
  | some fn =>
    match fn.body with
    | some c => !(fn.name == "runtime.NumGoroutine") && Q15 (rids c)
    | none => false
  | none => false
def Qdb (P : Program) : List (Nat × Nat × Ann) → Bool
  | [] => true
  | (f, _) :: l => rowOk P f && Qdb P l
theorem Qkp {P : Program} : ∀ {L : List (Nat × Nat × Ann)}, Qdb P L = true → ∀ {f m : Nat} {a : Ann}, Qlb L f m = some a → rowOk P f = true
  | [], _, f, m, a, h => by cases h
  | (f', m', a') :: l, hr, f, m, a, h => by
    unfold Qlb at h
    simp only [Qdb, Bool.and_eq_true] at hr
    split at h
    · next hb =>
      simp only [Bool.and_eq_true] at hb
      rw [← Q03 hb.1]; exact hr.1
    · exact Qkp hr.2 h
theorem QqJ {P : Program} {L : List (Nat × Nat × Ann)} (h : Qdb P L = true) : ∀ f m A, QfF P L f m = some A → P.funcs[f]? = some A.fn ∧ (A.fn.name == "runtime.NumGoroutine") = false ∧ ∃ c, A.fn.body = some c ∧ Q15 (rids c) = true := by
  intro f m A hA
  unfold QfF at hA
  split at hA
  · next a ha =>
    cases hA
    have hr := Qkp h ha
    unfold rowOk at hr
    split at hr
    · next fn hf =>
      split at hr
      · next c hc =>
        simp only [Bool.and_eq_true, Bool.not_eq_true'] at hr
        dsimp only
        rw [hf]
        exact ⟨rfl, hr.1, c, hc, hr.2⟩
      · cases hr
    · cases hr
  · cases hA
theorem Qqr {P : Program} {E : Env} (hm : P.follows .mixedOrders = true) (ht : E.tt = tdOf P) {L : List (Nat × Nat × Ann)} (ha : E.ann = QfF P L) (hL : Qdb P L = true) (he : ∀ t ts, E.eqs t = some ts → QdY P t ts)
    (hu : P.underlying E.S.u8 = some (.int .u8)) (hus : E.S.sh E.S.u8 = [.int .u8]) (h1 : ∀ s, (E.S.ofB s).length = s.size)
    (h2 : ∀ (s : ByteArray) (i : Nat) (x : E.S.K E.S.u8), (E.S.ofB s)[i]? = some x → ∃ b, s.data[i]? = some b ∧ E.S.enc E.S.u8 x = [.int .u8 b.toNat])
    (h3 : ∀ (l : List (E.S.K E.S.u8)) (ns : List Int), (∀ (i : Nat) (x : E.S.K E.S.u8), l[i]? = some x → ∃ n : Int, ns[i]? = some n ∧ E.S.enc E.S.u8 x = [.int .u8 n]) → ns.length = l.length → (E.S.toB l) = ⟨(ns.map fun n => UInt8.ofNat n.toNat).toArray⟩) : Q0r P E where
  mixed := hm
  tt := fun t td h => by rw [ht] at h; exact Qra h
  eqs := he
  ann := fun f m A h => by rw [ha] at h; exact QqJ hL f m A h
  u8 := hu
  u8sh := hus
  ofB_len := h1
  ofB := h2
  toB := h3
end Go.Ve
namespace Go.Ve
open Go.RowKit
set_option linter.unusedVariables false
set_option linter.unusedSimpArgs false
def oldB (w : World) (k : Nat) : Prop := k < w.heap.size
def Opv (P : Program) (S : Sig) (n : Nat) (t : TypeId) (ss : List TS) (ok : TL S.K ss → Prop) : Prop :=
  ∀ (H : Type) (enc : TypeId × Value → H) (w : World) (base : Nat) (sp : Nat → Bool) (held : Bool) (fuel : Nat) (cs : List Value) (x : DataW H × List MemPlace), fuel ≤ n →
    DataW.trod enc P w base sp held fuel t cs = some x → (DataW.weights P t x.1).all (· ≤ reachBytes) = true → ∃ a, All2 (TRep S (oldB w) w) (encL ss a) cs ∧ ok a
section
variable {P : Program} {S : Sig} {n : Nat} {t : TypeId}
theorem Qrv {k : IntKind} (ht : P.underlying t = some (.int k)) : Opv P S n t [.int k] (fun a => (Lit.int k a).wf = true) := by
  intro H enc w base sp held fuel cs x _ h _
  obtain ⟨v, rfl, _, hw⟩ := DataW.trod_int ht h
  exact ⟨v, .cons (.int k v) .nil, hw⟩
theorem QqK (ht : P.underlying t = some .bool) : Opv P S n t [.bool] (fun _ => True) := by
  intro H enc w base sp held fuel cs x _ h _
  obtain ⟨v, rfl, _⟩ := DataW.trod_bool ht h
  exact ⟨v, .cons (.bool v) .nil, trivial⟩
theorem QrC (ht : P.underlying t = some .string) : Opv P S n t [.str] (fun s => s.size ≤ 140737488351232) := by
  intro H enc w base sp held fuel cs x _ h hw
  obtain ⟨s, rfl, rfl, _⟩ := DataW.trod_string ht h
  refine ⟨s, .cons (.str s) .nil, ?_⟩
  simp only [DataW.weights, List.all_cons, List.all_nil, Bool.and_true, Array.length_toList] at hw
  exact of_decide_eq_true hw
theorem QiH {α : Type} {Q : Nat → α → Prop} : ∀ m : Nat, (∀ i, i < m → ∃ b, Q i b) → ∃ xs : List α, xs.length = m ∧ ∀ i b, xs[i]? = some b → Q i b
  | 0, _ => ⟨[], rfl, fun i b h => by simp at h⟩
  | m + 1, h => by
    obtain ⟨xs, hl, hx⟩ := QiH m (fun i hi => h i (by omega))
    obtain ⟨b, hb⟩ := h m (by omega)
    refine ⟨xs ++ [b], by simp [hl], fun i c hc => ?_⟩
    by_cases hi : i < xs.length
    · rw [List.getElem?_append_left hi] at hc
      exact hx i c hc
    · have hi2 : i = m := by
        have := (List.getElem?_eq_some_iff.1 hc).1
        rw [List.length_append, List.length_singleton] at this
        omega
      subst hi2
      rw [← hl] at hc
      simp at hc
      rw [← hc]
      exact hb
theorem Qgn {H : Type} {e : TypeId} : ∀ (l : List (DataW H)), (DataW.weightsAll P e l).all (· ≤ reachBytes) = true → ∀ d ∈ l, (DataW.weights P e d).all (· ≤ reachBytes) = true
  | [], _, d, hd => by cases hd
  | a :: r, h, d, hd => by
    simp only [DataW.weightsAll, List.all_append, Bool.and_eq_true] at h
    rcases List.mem_cons.1 hd with rfl | hd
    · exact h.1
    · exact Qgn r h.2 d hd
theorem Qrj (a : Addr) (m j : Nat) : (a.add m).add j = a.add (m + j) := by
  unfold Addr.add
  by_cases hj : j = 0
  · subst hj; simp
  · by_cases hm : m = 0
    · subst hm; simp
    · simp [hj, hm, Nat.add_assoc]
theorem Q76 {e : TypeId} {ok : TL S.K (S.sh e) → Prop} (B : Nat) (ht : P.underlying t = some (.slice e)) (hc : P.cellsOf e = S.sz e) (hpos : 0 < S.sz e) (hB : P.bytesOf e = B) (he : Opv P S n e (S.sh e) ok) :
    Opv P S n t [.arr e] (fun xs => xs.length ≤ maxLen ∧ xs.length * B ≤ 140737488351232 ∧ ∀ x ∈ xs, ok (S.toT e x)) := by
  intro H enc w base sp held fuel cs x hfu h hw
  rcases DataW.trod_slice ht h with ⟨rfl, rfl⟩ | ⟨a, len, cap, elems, rest, m, rfl, rfl, rfl, hb, hl, hm, hlen, hel, _, _⟩
  · exact ⟨([] : List (S.K e)), .cons (.arr e [] none 0 (fun _ _ => undef) (Nat.le_refl _) (fun _ => rfl) (fun ad h => by cases h) (fun i x j c h => by simp at h) (fun i x j c h => by simp at h)) .nil, by simp, by simp, by simp⟩
  · simp only [DataW.weights, ht, List.all_cons, List.all_append, Bool.and_eq_true, List.length_map, hB] at hw
    obtain ⟨hw1, hw2, _⟩ := hw
    have hw1' : (elems.length + rest.length) * B ≤ 140737488351232 := of_decide_eq_true hw1
    obtain ⟨xs, hxl, hx⟩ := QiH (α := S.K e) (Q := fun i b => (∃ c : List Value, All2 (TRep S (oldB w) w) (S.enc e b) c ∧ ∀ j u, c[j]? = some u → w.cell? (a.add (i * S.sz e + j)) = some u) ∧ ok (S.toT e b)) len (fun i hi => by
      have hk := hel i hi
      rw [hc] at hk
      have hi' : i < elems.length := by omega
      rw [List.getElem?_eq_getElem hi'] at hk
      obtain ⟨c, h1, h2⟩ := Option.bind_eq_some_iff.1 hk
      obtain ⟨b, hb1, hb2⟩ := he H enc w base sp held m c _ (by omega) h2 (Qgn _ hw2 _ (List.mem_map.2 ⟨_, List.getElem_mem hi', rfl⟩))
      refine ⟨S.ofT e b, ⟨c, by unfold Sig.enc; rw [S.law]; exact hb1, fun j u hu => ?_⟩, by rw [S.law]; exact hb2⟩
      obtain ⟨_, hcl, hcell⟩ := World.cells?_some h1
      have hj : j < S.sz e := by rw [← hcl]; exact (List.getElem?_eq_some_iff.1 hu).1
      rw [← Qrj, hcell j (by omega), hu])
    have hle : elems.length * B ≤ (elems.length + rest.length) * B := Nat.mul_le_mul_right _ (by omega)
    have hcellz : ∀ (i : Nat) (x : S.K e) (j : Nat) (c : Cell S.K), xs[i]? = some x → (S.enc e x)[j]? = some c → ∃ u, w.cell? (a.add (i * S.sz e + j)) = some u ∧ TRep S (oldB w) w c u := fun i x j c hi hj => by
      obtain ⟨⟨cv, hall, hcv⟩, _⟩ := hx i x hi
      obtain ⟨u, h1, h2⟩ := hall.get hj
      exact ⟨u, hcv j u h1, h2⟩
    have hsp : xs ≠ [] → a.spot = none ∧ a.block < w.heap.size := fun hne => by
      obtain ⟨x0, hx0⟩ : ∃ x0, xs[0]? = some x0 := by
        cases xs with
        | nil => exact absurd rfl hne
        | cons x l => exact ⟨x, rfl⟩
      have hlen' : (S.enc e x0).length = S.sz e := S.enc_length e x0
      obtain ⟨u, hu, _⟩ := hcellz 0 x0 0 ((S.enc e x0)[0]'(by omega)) hx0 (List.getElem?_eq_getElem (by omega))
      rw [Nat.zero_mul, Nat.add_zero] at hu
      have e0 : a.add 0 = a := by unfold Addr.add; simp
      rw [e0] at hu
      have hs := World.cell?_spot hu
      exact ⟨hs, World.block_lt_of_cell? w a hu⟩
    have hadd : xs ≠ [] → ∀ m, a.add m = ⟨a.block, a.off + m, none⟩ := fun hne m => by
      have := (hsp hne).1
      obtain ⟨b, o, s⟩ := a
      simp only at this
      subst this
      unfold Addr.add
      split <;> simp_all
    refine ⟨xs, .cons ?_ .nil, ?_, ?_, fun p hp => ?_⟩
    · have := TRep.arr (S := S) (Fz := oldB w) (w := w) e xs (some a) cap (fun i j => (w.cell? (a.add (i * S.sz e + j))).getD undef) (by omega) (fun h => by cases h) (fun ad had hne => by cases had; exact hsp hne)
        (fun i x j c hi hj ad had => by
          cases had
          have hne : xs ≠ [] := by rintro rfl; simp at hi
          obtain ⟨u, hu, _⟩ := hcellz i x j c hi hj
          rw [hadd hne] at hu
          simp only [hadd hne, hu, Option.getD_some])
        (fun i x j c hi hj => by
          obtain ⟨u, hu, hr⟩ := hcellz i x j c hi hj
          rw [hu]; exact hr)
      rw [hxl] at this
      exact this
    · simp only [maxLen] at hm ⊢; omega
    · rw [hxl, ← hlen]; omega
    · obtain ⟨i, hi, rfl⟩ := List.getElem_of_mem hp
      exact (hx i _ (List.getElem?_eq_getElem hi)).2
def Qiy {K : Nat → Type} : (l r : List TS) → TL K l → TL K r → TL K (l ++ r)
  | [], r, _, b => b
  | [a], [], x, _ => x
  | [a], b :: r, x, y => (x, y)
  | a :: b :: l, r, x, y => (x.1, Qiy (b :: l) r x.2 y)
theorem Qka {K : Nat → Type} : ∀ (l r : List TS) (x : TL K l) (y : TL K r), encL (l ++ r) (Qiy l r x y) = encL l x ++ encL r y
  | [], r, _, b => rfl
  | [a], [], x, _ => rfl
  | [a], b :: r, x, y => rfl
  | a :: b :: l, r, x, y => by
    have := Qka (b :: l) r x.2 y
    show a.enc x.1 :: encL ((b :: l) ++ r) _ = a.enc x.1 :: (encL (b :: l) x.2 ++ encL r y)
    rw [← this]
    rfl
theorem Qn6 {α β : Type} {R : α → β → Prop} {l l' : List α} {m m' : List β} (h : All2 R l m) (h' : All2 R l' m') : All2 R (l ++ l') (m ++ m') := by
  induction h with
  | nil => exact h'
  | cons a _ ih => exact .cons a ih
def OpvF (P : Program) (S : Sig) (n L off : Nat) (fs : List Field) (ss : List TS) (ok : TL S.K ss → Prop) : Prop :=
  ∀ (H : Type) (enc : TypeId × Value → H) (w : World) (base : Nat) (sp : Nat → Bool) (held : Bool) (fuel : Nat) (cs : List Value) (xs : List (DataW H × List MemPlace)), fuel ≤ n → cs.length = L → xs.length = fs.length →
    (∀ (i : Nat) (f : Field), fs[i]? = some f → DataW.trod enc P w base sp held fuel f.type ((cs.drop f.offset).take (P.cellsOf f.type)) = xs[i]?) →
    (DataW.weightsEach P (fs.map (·.type)) (xs.map (·.1))).all (· ≤ reachBytes) = true → ∃ a, All2 (TRep S (oldB w) w) (encL ss a) (cs.drop off) ∧ ok a
theorem Q3y {L off : Nat} {f : Field} {ss : List TS} {ok : TL S.K ss → Prop} (ho : f.offset = off) (hL : off + P.cellsOf f.type = L) (h : Opv P S n f.type ss ok) : OpvF P S n L off [f] ss ok := by
  intro H enc w base sp held fuel cs xs hfu hcs hxs hf hw
  match xs, hxs with
  | [x], _ =>
    have h0 := hf 0 f rfl
    rw [ho, List.take_of_length_le (by rw [List.length_drop]; omega)] at h0
    simp only [List.map_cons, List.map_nil, DataW.weightsEach, List.append_nil] at hw
    exact h H enc w base sp held fuel _ x hfu (by simpa using h0) hw
theorem QA {L off off' : Nat} {f : Field} {fs : List Field} {ss ss' : List TS} {ok : TL S.K ss → Prop} {ok' : TL S.K ss' → Prop} (ho : f.offset = off) (ho' : off + P.cellsOf f.type = off') (h : Opv P S n f.type ss ok) (h' : OpvF P S n L off' fs ss' ok') :
    OpvF P S n L off (f :: fs) (ss ++ ss') (fun p => ∃ a b, p = Qiy ss ss' a b ∧ ok a ∧ ok' b) := by
  intro H enc w base sp held fuel cs xs hfu hcs hxs hf hw
  match xs, hxs with
  | x :: xs, hxs =>
    have h0 := hf 0 f rfl
    rw [ho] at h0
    simp only [List.map_cons, DataW.weightsEach, List.all_append, Bool.and_eq_true] at hw
    obtain ⟨a, ha, oa⟩ := h H enc w base sp held fuel _ x hfu (by simpa using h0) hw.1
    obtain ⟨b, hb, ob⟩ := h' H enc w base sp held fuel cs xs hfu hcs (by simpa using hxs) (fun i g hg => by simpa using hf (i + 1) g (by simpa using hg)) hw.2
    refine ⟨Qiy ss ss' a b, ?_, a, b, rfl, oa, ob⟩
    rw [Qka]
    have : cs.drop off = (cs.drop off).take (P.cellsOf f.type) ++ cs.drop off' := by rw [← ho', ← List.drop_drop, List.take_append_drop]
    rw [this]
    exact Qn6 ha hb
theorem Q2f {L : Nat} {fs : Array Field} {ss : List TS} {ok : TL S.K ss → Prop} (ht : P.underlying t = some (.struct fs)) (hL : P.cellsOf t = L) (h : OpvF P S n L 0 fs.toList ss ok) : Opv P S (n + 1) t ss ok := by
  intro H enc w base sp held fuel cs x hfu hx hw
  obtain ⟨xs, m, rfl, rfl, hl, hlen, hf⟩ := DataW.trod_struct ht hx
  simp only [DataW.weights, ht] at hw
  have := h H enc w base sp held m cs xs (by omega) (by omega) (by simpa using hlen) (fun i f hi => hf i f (by simpa using hi)) hw
  simpa using this
theorem Qqi {ss : List TS} {ok : TL S.K ss → Prop} : Opv P S 0 t ss ok := fun H enc w base sp held fuel cs x hfu hx _ => by
  obtain rfl : fuel = 0 := by omega
  simp [DataW.trod] at hx
theorem Q45 {m : Nat} {ss : List TS} {ok : TL S.K ss → Prop} (h : Opv P S n t ss ok) (hm : m ≤ n) : Opv P S m t ss ok := fun H enc w base sp held fuel cs x hfu => h H enc w base sp held fuel cs x (by omega)
theorem Q1S {ss : List TS} {ok ok' : TL S.K ss → Prop} (h : Opv P S n t ss ok) (hi : ∀ a, ok a → ok' a) : Opv P S n t ss ok' := fun H enc w base sp held fuel cs x hfu hx hw => by
  obtain ⟨a, ha, oa⟩ := h H enc w base sp held fuel cs x hfu hx hw
  exact ⟨a, ha, hi a oa⟩
theorem Qrr {ss : List TS} {ok : TL S.K ss → Prop} (h : ∀ n, Opv P S n t ss ok) {H : Type} {enc : TypeId × Value → H} {w : World} {base : Nat} {sp : Nat → Bool} {held : Bool} {v : Value} {D : DataW H} {ps : List MemPlace} (hd : DataW.Trod enc P w base sp held t v D ps)
    {ts : List TypeId} {ds : List (DataW H)} (hsz : (DataW.weightsEach P ts ds).all (· ≤ reachBytes) = true) {j : Nat} (htj : ts[j]? = some t) (hdj : ds[j]? = some D) : ∃ a, All2 (TRep S (oldB w) w) (encL ss a) v.cells.toList ∧ ok a := by
  obtain ⟨fuel, hf⟩ := hd
  refine h fuel H enc w base sp held fuel _ _ (Nat.le_refl _) hf ?_
  exact List.all_eq_true.2 fun m hm => List.all_eq_true.1 hsz m (DataW.weights_mem_each htj hdj m hm)
theorem Qqz {H : Type} {enc : TypeId × Value → H} {w : World} {base : Nat} {sp : Nat → Bool} {held : Bool} {v : Value} {D : DataW H} {ps : List MemPlace} (hd : DataW.Trod enc P w base sp held t v D ps) : ∀ x ∈ ps, x.block < w.heap.size := by
  obtain ⟨m, hm⟩ := hd
  exact DataW.trod_lt m _ _ _ hm
theorem Chg.below {O : Nat → Nat → Prop} {w w' : World} (h : Chg O w w') (hO : ∀ k o, ¬ O k o) : Below w.heap.size w w' :=
  ⟨h.os, h.tape, h.output, h.size, fun k hk => h.blk k hk (hO k)⟩
end
theorem QoW {P : Program} {E : Env} {f m : Nat} (hn : E.ext f m = none) {d : TL E.S.K (jobT E.ann ⟨f, m, none⟩)} {r : TL E.S.K (outT E.ann f m)} (hC : Q2Y P E f m d r) {A : Q04} (hA : E.ann f m = some A) {xs : List (Nat × FV E.S.K)}
    (hx : Q0h (fun i => (i, 0)) A.inL (encL _ d) = some (xs, [])) {vs : Array Value} {w : World} (hs : ∀ t x, (t, x) ∈ xs → FRep E.S (fun _ => False) (fun _ => ⟨none, 0, 0, 0⟩) (oldB w) w x (vs.getD t undef))
    (hfix : Q7l E.S.fixd (oldB w) w := by exact fun _ h => nomatch h) :
    Calls P f vs w fun e w' => ∃ v res blks φ Fz, e = .returned v ∧ Below w.heap.size w w' ∧ Q0h (fun i => (i, 0)) A.outL (encL (outT E.ann f m) r) = some (res, blks) ∧ SRep E.S (fun i => i < A.outL.blocks.length) φ Fz w' (Q8e res) v := by
  obtain ⟨xs', blks0, hx', hgo⟩ := hC A hA
  rw [hx] at hx'
  cases hx'
  have hno : ∀ (k o : Nat), ¬ OC (fun _ => (⟨none, 0, 0, 0⟩ : Loc)) (QJ (K := E.S.K) 0 []) k o := fun k o ⟨id, b, h, _⟩ => by simp [QJ, get] at h
  refine (hgo (fun _ => ⟨none, 0, 0, 0⟩) (oldB w) w vs ⟨fun id b h => by simp [QJ, get] at h, fun id b h => by simp [QJ, get] at h, fun id id' b b' h => by simp [QJ, get] at h, fun id b h => by simp [QJ, get] at h, fun k h => h, hfix⟩ (fun t v hv => ?_) (fun h => absurd hn h)).mono ?_
  · obtain ⟨x, h1, rfl⟩ := Qak hv
    exact FRep.keep (Chg.refl (fun _ _ => False) w) (fun _ _ h => h.elim) (fun _ h => h) (fun _ h => h.elim) (fun _ h => h.elim) (hs t x h1)
  · rintro e w' ⟨v, rfl, res, blks, φ', Fz', h1, _, h3, _, _, _, _, _, h8⟩
    exact ⟨v, res, blks, φ', Fz', rfl, h8.below hno, h1, h3⟩
end Go.Ve
namespace Go.Ve
open Go.RowKit
set_option linter.unusedVariables false
set_option linter.unusedSimpArgs false
structure Qdg (S : Sig) (ann : Nat → Nat → Option Q04) where
  f : Nat
  m : Nat
  g : TL S.K (jobT ann ⟨f, m, none⟩) → Option (TL S.K (outT ann f m))
def QqY {S : Sig} {ann : Nat → Nat → Option Q04} {f f' m m' : Nat} (h : f' = f) (h' : m' = m) (g : TL S.K (jobT ann ⟨f', m', none⟩) → Option (TL S.K (outT ann f' m'))) : TL S.K (jobT ann ⟨f, m, none⟩) → Option (TL S.K (outT ann f m)) := by
  subst h; subst h'; exact g
def QfG (S : Sig) (ann : Nat → Nat → Option Q04) : List (Qdg S ann) → (f m : Nat) → Option (TL S.K (jobT ann ⟨f, m, none⟩) → Option (TL S.K (outT ann f m)))
  | [], _, _ => none
  | r :: l, f, m =>
    match Nat.decEq r.f f with
    | isTrue h =>
      match Nat.decEq r.m m with
      | isTrue h' => some (QqY h h' r.g)
      | isFalse _ => QfG S ann l f m
    | isFalse _ => QfG S ann l f m
theorem Qft {S : Sig} {ann : Nat → Nat → Option Q04} : ∀ {L : List (Qdg S ann)} {f m : Nat} {g : TL S.K (jobT ann ⟨f, m, none⟩) → Option (TL S.K (outT ann f m))}, QfG S ann L f m = some g →
    ∃ r ∈ L, ∃ (h : r.f = f) (h' : r.m = m), g = QqY h h' r.g
  | [], f, m, g, h => by cases h
  | r :: l, f, m, g, h => by
    unfold QfG at h
    split at h
    · next h1 _ =>
      split at h
      · next h2 _ => cases h; exact ⟨r, by simp, h1, h2, rfl⟩
      · obtain ⟨r', h1, h2⟩ := Qft h; exact ⟨r', by simp [h1], h2⟩
    · obtain ⟨r', h1, h2⟩ := Qft h; exact ⟨r', by simp [h1], h2⟩
def Qia (P : Program) (E : Env) : List (Qdg E.S E.ann) → Prop
  | [] => True
  | r :: l => (∀ d x, r.g d = some x → Q2Y P E r.f r.m d x) ∧ Qia P E l
theorem QhD {P : Program} {E : Env} : ∀ {L : List (Qdg E.S E.ann)}, Qia P E L → ∀ r ∈ L, ∀ d x, r.g d = some x → Q2Y P E r.f r.m d x
  | [], _, r, h => by cases h
  | r0 :: l, hL, r, h => by
    rcases List.mem_cons.1 h with rfl | h
    · exact hL.1
    · exact QhD hL.2 r h
theorem QqL {P : Program} {E : Env} {L : List (Qdg E.S E.ann)} (he : E.ext = QfG E.S E.ann L) (h : Qia P E L) : Qr7 P E := by
  intro f m g hg d r hr
  rw [he] at hg
  obtain ⟨row, hm, h1, h2, rfl⟩ := Qft hg
  obtain ⟨f', m', g'⟩ := row
  dsimp only at h1 h2
  subst h1 h2
  exact QhD h _ hm d r hr
theorem Chg.of_below {O : Nat → Nat → Prop} {w w' : World} (h : Below w.heap.size w w') : Chg O w w' := by
  obtain ⟨h1, h2, h3, h4, h5⟩ := h
  exact ⟨h1, h2, h3, h4, fun k o hk _ => ⟨World.cell?_of_block (h5 k hk), World.frozen?_of_block (h5 k hk)⟩, fun k hk _ => h5 k hk, fun k hk => Q3c (h5 k hk)⟩
theorem Qqs {P : Program} {E : Env} {f m : Nat} {A : Q04} (hA : E.ann f m = some A) (hX : E.ext f m ≠ none) {d : TL E.S.K (jobT E.ann ⟨f, m, none⟩)} {r : TL E.S.K (outT E.ann f m)} {xs res : List (Nat × FV E.S.K)}
    (hin : Q0h (fun i => (i, 0)) A.inL (encL (jobT E.ann ⟨f, m, none⟩) d) = some (xs, [])) (hout : Q0h (fun i => (i, 0)) A.outL (encL (outT E.ann f m) r) = some (res, []))
    (h : ∀ (Fz : Nat → Prop) (w : World) (vs : Array Value), vs.size = A.inL.slots.length → (∀ k, Fz k → k < w.heap.size) → Q7l E.S.fixd Fz w → (∀ t x, get (slotsOf xs) t = some (.v x) → FRep E.S (fun _ => False) (fun _ => ⟨none, 0, 0, 0⟩) Fz w x (vs.getD t undef)) →
      Calls P f vs w fun e w' => ∃ v, e = .returned v ∧ Below w.heap.size w w' ∧ SRep E.S (fun _ => False) (fun _ => ⟨none, 0, 0, 0⟩) Fz w' (Q8e res) v) : Q2Y P E f m d r := by
  intro A' hA'
  obtain rfl : A = A' := Option.some.inj (hA.symm.trans hA')
  refine ⟨xs, [], hin, fun φ Fz w vs hR hS hsz => ?_⟩
  have hblk : A.inL.blocks = [] := by
    have hb : ∀ {l : List BS} {r : List (Cell E.S.K)} {n : List BS}, Q1m n (fun i => (i, 0)) l r = some [] → l = [] := fun {l r n} h => by
      cases l with
      | nil => rfl
      | cons b l =>
        unfold Q1m at h
        split at h
        · split at h
          · cases h
          · cases h
        · cases h
    unfold Q0h at hin
    split at hin
    · split at hin
      · next h1 => cases hin; exact hb h1
      · cases hin
    · cases hin
  refine (h Fz w vs (hsz hX) hR.lt hR.inv (fun t c hc => ?_)).mono ?_
  · have := hS t _ hc
    exact FRep.keep (Chg.refl (fun _ _ => False) w) (fun _ _ h => h.elim) (fun _ h => h) (fun i hi => by rw [hblk] at hi; exact absurd hi (Nat.not_lt_zero _)) (fun i hi => by rw [hblk] at hi; exact absurd hi (Nat.not_lt_zero _)) this
  · rintro e w' ⟨v, rfl, hb, hs⟩
    have hno : ∀ {φ : Nat → Loc} (k o : Nat), ¬ OC φ (QJ (K := E.S.K) 0 []) k o := fun k o ⟨id, b, h, _⟩ => by simp [QJ, get] at h
    have hC : Chg (OC φ (QJ (K := E.S.K) 0 [])) w w' := Chg.of_below hb
    refine ⟨v, rfl, res, [], fun _ => ⟨none, 0, 0, 0⟩, Fz, hout, ⟨fun id b h => by simp [QJ, get] at h, fun id b h => by simp [QJ, get] at h, fun id id' b b' h => by simp [QJ, get] at h, fun id b h => by simp [QJ, get] at h, fun k hk => Nat.lt_of_lt_of_le (hR.lt k hk) hC.size, hR.inv.keep hC (fun k o ho => absurd ho (hno k o)) (fun _ h => h)⟩, ?_, fun i cs cs0 _ h => by simp [QJ, get] at h, fun i e e' h => by rw [hblk] at h; simp at h, fun _ h => h, fun k hk => .inl hk, fun k o h => absurd h (hno k o), hC⟩
    exact SRep.keep (Chg.refl (fun _ _ => False) w') (fun _ _ h => h.elim) (fun _ h => h) (fun _ h => h.elim) (fun _ h => h.elim) hs
theorem Qh0 {P : Program} {E : Env} {f m : Nat} {A : Q04} (hA : E.ann f m = some A) (hX : E.ext f m ≠ none) {d : TL E.S.K (jobT E.ann ⟨f, m, none⟩)} {r : TL E.S.K (outT E.ann f m)} {xs res : List (Nat × FV E.S.K)}
    (hin : Q0h (fun i => (i, 0)) A.inL (encL (jobT E.ann ⟨f, m, none⟩) d) = some (xs, [])) (hout : Q0h (fun i => (i, 0)) A.outL (encL (outT E.ann f m) r) = some (res, []))
    (h : ∀ (Fz : Nat → Prop) (w : World) (vs : Array Value), vs.size = A.inL.slots.length → (∀ k, Fz k → k < w.heap.size) → Q7l E.S.fixd Fz w → (∀ t c, get (slotsOf xs) t = some (.v (.c c)) → CRep E.S (fun _ => False) (fun _ => ⟨none, 0, 0, 0⟩) Fz w c (vs.getD t undef)) →
      Calls P f vs w fun e w' => ∃ v, e = .returned v ∧ Below w.heap.size w w' ∧ SRep E.S (fun _ => False) (fun _ => ⟨none, 0, 0, 0⟩) Fz w' (Q8e res) v) : Q2Y P E f m d r :=
  Qqs hA hX hin hout (fun Fz w vs hz hlt hfx hs => h Fz w vs hz hlt hfx (fun t c hc => hs t _ hc))
theorem QqO {P : Program} {E : Env} {f m : Nat} {A : Q04} (hA : E.ann f m = some A) (hX : E.ext f m ≠ none) {d : TL E.S.K (jobT E.ann ⟨f, m, none⟩)} {r : TL E.S.K (outT E.ann f m)} {xs res : List (Nat × FV E.S.K)}
    (hin : Q0h (fun i => (i, 0)) A.inL (encL (jobT E.ann ⟨f, m, none⟩) d) = some (xs, [])) (hout : Q0h (fun i => (i, 0)) A.outL (encL (outT E.ann f m) r) = some (res, []))
    (h : ∀ (Fz : Nat → Prop) (w : World) (vs : Array Value), vs.size = A.inL.slots.length → (∀ k, Fz k → k < w.heap.size) → Q7l E.S.fixd Fz w → (∀ t c, get (slotsOf xs) t = some (.v (.c c)) → CRep E.S (fun _ => False) (fun _ => ⟨none, 0, 0, 0⟩) Fz w c (vs.getD t undef)) →
      Calls P f vs w fun e w' => ∃ v, e = .returned v ∧ Below w.heap.size w w' ∧ SRep E.S (fun _ => False) (fun _ => ⟨none, 0, 0, 0⟩) (fun k => Fz k ∨ (w.heap.size ≤ k ∧ k < w'.heap.size)) w' (Q8e res) v) : Q2Y P E f m d r := by
  intro A' hA'
  obtain rfl : A = A' := Option.some.inj (hA.symm.trans hA')
  refine ⟨xs, [], hin, fun φ Fz w vs hR hS hsz => ?_⟩
  have hblk : A.inL.blocks = [] := by
    have hb : ∀ {l : List BS} {r : List (Cell E.S.K)} {n : List BS}, Q1m n (fun i => (i, 0)) l r = some [] → l = [] := fun {l r n} h => by
      cases l with
      | nil => rfl
      | cons b l =>
        unfold Q1m at h
        split at h
        · split at h
          · cases h
          · cases h
        · cases h
    unfold Q0h at hin
    split at hin
    · split at hin
      · next h1 => cases hin; exact hb h1
      · cases hin
    · cases hin
  refine (h Fz w vs (hsz hX) hR.lt hR.inv (fun t c hc => ?_)).mono ?_
  · have : FRep E.S _ φ Fz w (.c c) _ := hS t _ hc
    exact FRep.keep (x := .c c) (Chg.refl (fun _ _ => False) w) (fun _ _ h => h.elim) (fun _ h => h) (fun i hi => by rw [hblk] at hi; exact absurd hi (Nat.not_lt_zero _)) (fun i hi => by rw [hblk] at hi; exact absurd hi (Nat.not_lt_zero _)) this
  · rintro e w' ⟨v, rfl, hb, hs⟩
    have hno : ∀ {φ : Nat → Loc} (k o : Nat), ¬ OC φ (QJ (K := E.S.K) 0 []) k o := fun k o ⟨id, b, h, _⟩ => by simp [QJ, get] at h
    have hC : Chg (OC φ (QJ (K := E.S.K) 0 [])) w w' := Chg.of_below hb
    refine ⟨v, rfl, res, [], fun _ => ⟨none, 0, 0, 0⟩, (fun k => Fz k ∨ (w.heap.size ≤ k ∧ k < w'.heap.size)), hout, ⟨fun id b h => by simp [QJ, get] at h, fun id b h => by simp [QJ, get] at h, fun id id' b b' h => by simp [QJ, get] at h, fun id b h => by simp [QJ, get] at h, fun k hk => hk.elim (fun hk => Nat.lt_of_lt_of_le (hR.lt k hk) hC.size) (fun hk => hk.2), hR.inv.keep hC (fun k o ho => absurd ho (hno k o)) (fun _ h => .inl h)⟩, ?_, fun i cs cs0 _ h => by simp [QJ, get] at h, fun i e e' h => by rw [hblk] at h; simp at h, fun _ h => .inl h, fun k hk => hk.elim .inl (fun hk => .inr (.inr hk.1)), fun k o h => absurd h (hno k o), hC⟩
    exact SRep.keep (Chg.refl (fun _ _ => False) w') (fun _ _ h => h.elim) (fun _ h => h) (fun _ h => h.elim) (fun _ h => h.elim) hs
theorem arr1 {vs : Array Value} {a : Value} (h : vs.size = 1) (h0 : vs.getD 0 undef = a) : vs = #[a] := by
  obtain ⟨l⟩ := vs
  match l, h with
  | [x], _ => simp at h0; rw [h0]
theorem arr2 {vs : Array Value} {a b : Value} (h : vs.size = 2) (h0 : vs.getD 0 undef = a) (h1 : vs.getD 1 undef = b) : vs = #[a, b] := by
  obtain ⟨l⟩ := vs
  match l, h with
  | [x, y], _ => simp at h0 h1; rw [h0, h1]
theorem ext_eq {E : Env} {f m : Nat} {g : TL E.S.K (jobT E.ann ⟨f, m, none⟩) → Option (TL E.S.K (outT E.ann f m))} (h : E.ext f m = some g) (d : TL E.S.K (jobT E.ann ⟨f, m, none⟩)) : Sem E ⟨f, m, none⟩ d = g d := Qru E h d
def Qcc (s sep : ByteArray) : Option (List ByteArray) := if s.size < 4294967281 ∧ 1 ≤ sep.size then some (Lib.splitB sep 0 (Lib.countB s sep) s) else none
theorem QnA {s sep : ByteArray} {r : List ByteArray} (h : Qcc s sep = some r) : s.size < 4294967281 ∧ 1 ≤ sep.size ∧ Lib.splitB sep 0 (Lib.countB s sep) s = r := by
  unfold Qcc at h
  split at h
  · next h1 => exact ⟨h1.1, h1.2, Option.some.inj h⟩
  · cases h
def Qcg (s p : ByteArray) : ByteArray × Bool := (⟨(Lib.trimPrefix s.data.toList p.data.toList).toArray⟩, Lib.hasPrefix s.data.toList p.data.toList)
def oneB (c : ByteArray) : Option UInt8 := match c.data.toList with | [x] => some x | _ => none
theorem Qk6 {c : ByteArray} {x : UInt8} (h : oneB c = some x) : c = ⟨#[x]⟩ := by
  unfold oneB at h
  split at h
  · next y hy =>
    cases h
    obtain ⟨⟨l⟩⟩ := c
    have : l = [x] := hy
    rw [this]
  · cases h
def QaS (s c : ByteArray) : Option ByteArray :=
  match oneB c with
  | some x => if x.toNat < 128 ∧ s.size ≤ 9223372036854775807 then some ⟨(Lib.trimRightB s.data.toList x).toArray⟩ else none
  | none => none
theorem Qn4 {s c r : ByteArray} (h : QaS s c = some r) : ∃ x, c = ⟨#[x]⟩ ∧ x.toNat < 128 ∧ s.size ≤ 9223372036854775807 ∧ (⟨(Lib.trimRightB s.data.toList x).toArray⟩ : ByteArray) = r := by
  unfold QaS at h
  split at h
  · next x hx =>
    split at h
    · next hc => exact ⟨x, Qk6 hx, hc.1, hc.2, Option.some.inj h⟩
    · cases h
  · cases h
def Q6U (s c : ByteArray) : Option Bool :=
  match oneB c with
  | some x => some (decide (0 ≤ Lib.indexByte s.data.toList x))
  | none => none
theorem Qjj {s c : ByteArray} {r : Bool} (h : Q6U s c = some r) : ∃ x, c = ⟨#[x]⟩ ∧ decide (0 ≤ Lib.indexByte s.data.toList x) = r := by
  unfold Q6U at h
  split at h
  · next x hx => exact ⟨x, Qk6 hx, Option.some.inj h⟩
  · cases h
def QdW (l : List Int) : Option ByteArray := if l.length ≤ 140737488355328 then some (Ve.toB l) else none
theorem Qov {l : List Int} {r : ByteArray} (h : QdW l = some r) : l.length ≤ 140737488355328 ∧ Ve.toB l = r := by
  unfold QdW at h
  split at h
  · next h1 => cases h; exact ⟨h1, rfl⟩
  · cases h
def Qin (l : List Value) : Prop := ∃ m, l[0]? = some (.int .i64 m)
theorem Qmu {l : List (Nat × (List Value → Prop))} {Fz : Nat → Prop} {w : World} (g : Nat) (hm : (g, Qin) ∈ l) (h : Q7l l Fz w) : ∃ m, w.cell? ⟨g, 0, none⟩ = some (.int .i64 m) := by
  obtain ⟨_, cs, el, fz, hh, m, hp⟩ := h (g, Qin) hm
  obtain ⟨cs⟩ := cs
  refine ⟨m, ?_⟩
  unfold World.cell?
  rw [hh]
  simpa using hp
theorem Qp5 {Fz : Nat → Prop} {w : World} : Q7l [] Fz w := fun _ h => by cases h
theorem Qpv {r : List (Nat × (List Value → Prop))} {w : World} (g : Nat) (h : ∃ m, w.cell? ⟨g, 0, none⟩ = some (.int .i64 m)) (hr : Q7l r (oldB w) w) : Q7l ((g, Qin) :: r) (oldB w) w := by
  intro x hx
  rcases List.mem_cons.1 hx with rfl | hx
  · obtain ⟨m, h⟩ := h
    have hl := lt_of_cell h
    unfold World.cell? at h
    split at h
    · next cs el fz hh =>
      refine ⟨hl, cs, el, fz, hh, m, ?_⟩
      simpa using h
    · cases h
  · exact hr x hx
theorem Qgl {H : Type} {enc : TypeId × Value → H} {a : Assume} {C : Checked} {os : Os} {f : FuncId} {fn : Func} {s : ChangeSpec} {conds : List PathCond} {apart fresh handsOn again : Bool} {X : World → Array Value → Prop}
    (hX : ∀ (w w' : World) (args : Array Value), w.heap = w'.heap → X w args → X w' args)
    (own : ownKnob C.prog.godebug = none) (started : os.Started) (noInit : C.prog.inits.idxOf? f = none) (hfn : C.prog.funcs[f]? = some fn)
    (witness : ∃ (w : World) (tape : Tape) (i : Input), w.os = os ∧ (w.forCall tape i).Shaped C.prog ∧ i.vars = [] ∧ Input.okWide C.prog (w.forCall tape i) .any w.heap.size f i ∧
      ((s.pre enc C.prog fn conds apart (w.forCall tape i).memory i.args ∧ X (w.forCall tape i).memory i.args) ∧ sizedMet enc C.prog fn (OpenSpec.ofChange s) apart (w.forCall tape i).memory i.args) ∧ a.holds C.prog (lone (Frame.enter C.prog f i.args .normal) [] (w.forCall tape i)))
    (contract : ∀ (W : World) (base : Nat) (args : Array Value) (ds gs : List (DataW H)) (before : List MemPlace),
      (∀ (j : Nat) t v, fn.params[j]? = some t → args[j]? = some v → Value.okWide C.prog W .any base t v) →
      DataW.Whole enc C.prog fn.params.toList s.vars apart W args.toList ds gs before →
      conds.all (PathCond.test C.prog ⟨fn.params.toList, ds, s.plain.varTypes C.prog, gs⟩) = true →
      (DataW.weightsEach C.prog (fn.params.toList ++ s.plain.varTypes C.prog) (ds ++ gs)).all (· ≤ reachBytes) = true → X W args →
      W.ShapedOpen C.prog →
      a.holds C.prog (lone (Frame.enter C.prog f args .normal) [] W) →
      Calls C.prog f args W fun e W' => ∃ v, e = .returned v ∧ s.post enc C.prog fn apart fresh handsOn again W args v W') :
    ReturnsInHanded a C os f .any (fun w args => (s.pre enc C.prog fn conds apart w args ∧ X w args) ∧ sizedMet enc C.prog fn (OpenSpec.ofChange s) apart w args) (s.post enc C.prog fn apart fresh handsOn again) := by
  refine returnsInHanded_of_calls own started noInit witness ?_
  intro w tape i _ hsh _ hok hpre hholds
  obtain ⟨_, _, _, fn', hfn', _, _, _, _, hval⟩ := hok
  have e : fn' = fn := Option.some.inj (hfn'.symm.trans hfn)
  subst e
  obtain ⟨⟨⟨ds, gs, before, hw, hc⟩, hx⟩, hz⟩ := hpre
  have hw' := DataW.Whole.of_heap (w' := w.forCall tape i) (by rfl) hw
  refine (contract (w.forCall tape i) w.heap.size i.args ds gs before hval hw' hc (hz.weights hw) (hX _ _ _ (by rfl) hx) hsh hholds).mono fun e W' ⟨v, he, hp⟩ => ?_
  subst he
  exact ChangeSpec.post_blind hp
theorem Qlk {S : Sig} {D : Nat → Prop} {φ : Nat → Loc} {Fz : Nat → Prop} {w : World} {e : Nat} {l : List (S.K e)} (f : S.K e → ByteArray) (henc : ∀ x, S.enc e x = [.str (f x)]) (hsz : S.sz e = 1) {b : Nat} (hF : Fz b) (hc : ∀ (i : Nat) x, l[i]? = some x → w.cell? ⟨b, i, none⟩ = some (.string (f x))) :
    CRep S D φ Fz w (.arr e l) (.slice (some ⟨b, 0, none⟩) l.length l.length) := by
  have h : TRep S Fz w (.arr e l) (.slice (some ⟨b, 0, none⟩) l.length l.length) := by
    refine .arr e l _ _ (fun i _ => match l[i]? with | some x => .string (f x) | none => undef) (Nat.le_refl _) (fun h => by cases h) (fun ad had _ => by cases had; exact ⟨rfl, hF⟩) (fun i x j c hx hj ad had => ?_) (fun i x j c hx hj => ?_)
    · cases had
      rw [henc] at hj
      obtain rfl : j = 0 := by
        have := (List.getElem?_eq_some_iff.1 hj).1
        simp at this; exact this
      show w.cell? ⟨b, 0 + (i * S.sz e + 0), none⟩ = some _
      rw [hsz, Nat.mul_one, Nat.add_zero, Nat.zero_add, hc i x hx, hx]
    · rw [henc] at hj
      obtain rfl : j = 0 := by
        have := (List.getElem?_eq_some_iff.1 hj).1
        simp at this; exact this
      simp only [List.getElem?_cons_zero, Option.some.injEq] at hj
      subst hj
      rw [hx]
      exact .str _
  exact h
def QrP (bl : List ByteArray) (zs : List (Int × ByteArray)) (k : Int) : Option ByteArray :=
  match zs.reverse.find? (fun p => p.1 == k) with
  | some p => some p.2
  | none => idx bl k
def Qsf (bl : List ByteArray) (zs : List (Int × ByteArray)) (k : Int) : Option ByteArray := if zs.length * 24 ≤ 140737488351232 then QrP bl zs k else none
end Go.Ve
namespace Go.Ve
open Go.RowKit Go.Shelf Go.Proofs Go
set_option linter.unusedVariables false
set_option linter.unusedSimpArgs false
set_option maxRecDepth 100000
section
variable {P : Program}
theorem QoK {e : TypeId} (hc : P.cellsOf e = 1) (count off n : Nat) (hn : off + n ≤ count) : liesAt P P.depth e count off e n = true := by
  have hd : P.depth = (2 * (P.types.size + Made.depth) + 1) + 1 := rfl
  rw [hd]
  simp only [liesAt, Bool.or_eq_true]
  left
  rw [hd]
  simp [rowAt, hc, hn, sameLayout]
  exact .inl (Nat.mod_one off)
theorem Qds (w : World) : ∀ (l : List Int) (a : Addr) (acc : ByteArray), (∀ (j : Nat) x, l[j]? = some x → w.cell? (a.add j) = some (.int .u8 x)) →
    (loadBytes a acc l.length).run P w = .ok ⟨acc.data ++ (l.map fun n => UInt8.ofNat n.toNat).toArray⟩ w
  | [], a, acc, _ => by simp [loadBytes]
  | x :: l, a, acc, h => by
    have h0 : w.cell? a = some (.int .u8 x) := by
      have := h 0 x rfl
      simpa [Addr.add] using this
    have ih := Qds w l (a.add 1) (acc.push x.toNat.toUInt8) (fun j y hy => by
      have := h (j + 1) y (by simpa using hy)
      have e : (a.add 1).add j = a.add (j + 1) := by
        unfold Addr.add
        by_cases hj : j = 0
        · subst hj; simp
        · simp [hj]; omega
      rw [e]; exact this)
    simp only [List.length_cons, loadBytes, Sem.run_bind, run_load, h0, Result.andThen]
    rw [ih]
    congr 1
    apply ByteArray.ext
    simp [ByteArray.push]
theorem Qg2 (w : World) (pt it ty e : TypeId) (hp : P.underlying pt = some (.pointer e)) (hc : P.cellsOf e = 1) (g o cells : Nat) (hsh : w.shape? g = some (e, cells)) (l : List Int) (h0 : l ≠ []) (hn : o + l.length ≤ cells) (h63 : l.length ≤ 9223372036854775807)
    (hcell : ∀ (j : Nat) x, l[j]? = some x → w.cell? ((⟨g, o, none⟩ : Addr).add j) = some (.int .u8 x)) :
    (Builtin.unsafeString_ #[pt, it] ty #[.pointer (some ⟨g, o, none⟩), .int .i64 l.length]).run P w = .ok (.string ⟨(l.map fun n => UInt8.ofNat n.toNat).toArray⟩) (w.freeze ⟨g, o, none⟩ l.length) := by
  have hl : l.length ≠ 0 := by simpa using h0
  have hlb := Qds (P := P) w l ⟨g, o, none⟩ .empty hcell
  have hlies := QoK (P := P) hc (cells / P.cellsOf e) o l.length (by rw [hc]; simpa using hn)
  have h63' : ¬ (9223372036854775807 : Int) < (l.length : Int) := by omega
  obtain ⟨p1, p2, p3, hdef⟩ : ∃ (p1 p2 : Go.Sem PUnit) (p3 : Go.Sem Value), Builtin.unsafeString_ #[pt, it] ty #[.pointer (some ⟨g, o, none⟩), .int .i64 l.length] =
      (do
        let n ← asInt (.int .i64 l.length)
        if n < 0 then p1
        if n > IntKind.i64.max then p2
        if n = 0 then pure (.string .empty)
        else if ← variablesAt ⟨g, o, none⟩ (← elemOf pt) n.toNat then do
          let s ← loadBytes ⟨g, o, none⟩ .empty n.toNat
          Go.freeze ⟨g, o, none⟩ n.toNat
          pure (.string s)
        else p3) := ⟨_, _, _, rfl⟩
  rw [hdef]
  have hmax : IntKind.i64.max = 9223372036854775807 := rfl
  have hneg : ¬ (l.length : Int) < 0 := by omega
  simp [asInt, asIntOf, hmax, h63', hneg, hl, variablesAt, hsh, elemOf, run_underlying hp, hlies, hlb]
variable {ρ : Ren}
set_option maxHeartbeats 1000000 in
theorem Qe5 (L : Lays.n169 P ρ) (X : Builder.Extra P ρ) (b : Nat) (q q' : Option Addr) (n cap : Nat) (r : ByteArray) (w w2 : World) (c1 : w.drew.cell? ⟨b, 1, none⟩ = some (.slice q n cap))
    (hSD : (Builtin.unsafeSliceData_ #[(ρ.t 37)] (ρ.t 127) #[.slice q n cap]).run P w.drew = .ok (.pointer q') w.drew)
    (hUS : (Builtin.unsafeString_ #[(ρ.t 127), (ρ.t 3)] (ρ.t 9) #[.pointer q', .int .i64 n]).run P w.drew = .ok (.string r) w2) :
    Calls P (ρ.f 169) #[.pointer (some ⟨b, 0, none⟩)] w fun e w' => e = .returned (.string r) ∧ w' = w2 := by
  have mixed := L.mixed
  have t72 := L.t72; have a72 := L.a72; have z72 := L.z72; have v72 := L.v72; have u72 := run_underlying L.t72
  have t70 := L.t70; have a70 := L.a70; have z70 := L.z70; have v70 := L.v70; have u70 := run_underlying L.t70
  have t37 := L.t37; have a37 := L.a37; have z37 := L.z37; have v37 := L.v37; have u37 := run_underlying L.t37
  have t127 := L.t127; have a127 := L.a127; have z127 := L.z127; have v127 := L.v127; have u127 := run_underlying L.t127
  have t3 := L.t3; have a3 := L.a3; have z3 := L.z3; have v3 := L.v3; have u3 := run_underlying L.t3
  have t9 := L.t9; have a9 := L.a9; have z9 := L.z9; have v9 := L.v9; have u9 := run_underlying L.t9
  have t5 := X.t5; have a5 := X.a5; have z5 := X.z5; have v5 := X.v5; have u5 := run_underlying X.t5
  go_enter L.f169, Body.n169_ntmps ρ
  go_wp2
  go_region_o
  all_goals (go_wp2; go_ret; exact ⟨rfl, rfl⟩)
set_option maxHeartbeats 2000000 in
theorem Qi2 (L : Lays.n169 P ρ) (X : Builder.Extra P ρ) (b : Nat) (ad : Addr) (sh : TypeId × Nat) (w : World) (c0 : w.cell? ⟨b, 1, none⟩ = some (.slice (some ad) 0 0)) (hlt : b < w.heap.size) (hsh : w.shape? ad.block = some sh) :
    Calls P (ρ.f 169) #[.pointer (some ⟨b, 0, none⟩)] w fun e w' => e = .returned (.string ⟨#[]⟩) ∧ Below w.heap.size w w' := by
  have hUS := Any.unsafeString_none L X
  have c1 : w.drew.cell? ⟨b, 1, none⟩ = some (.slice (some ad) 0 0) := c0
  have hSD : (Builtin.unsafeSliceData_ #[(ρ.t 37)] (ρ.t 127) #[.slice (some ad) 0 0]).run P w.drew = .ok (.pointer (some ⟨w.drew.heap.size, 0, none⟩)) (w.drew.alloc (.view ad (ρ.t 5))) :=
    Lib.run_unsafeSliceData_zero w.drew _ _ (ρ.t 5) L.t127 ad 0 sh hsh
  have c2 : (w.drew.alloc (.view ad (ρ.t 5))).cell? ⟨b, 1, none⟩ = some (.slice (some ad) 0 0) := by
    rw [← c1]
    exact World.cell?_of_block (Lib.alloc_old w.drew _ b hlt)
  have c3 : (w.alloc (.view ad (ρ.t 5))).drew.cell? ⟨b, 1, none⟩ = some (.slice (some ad) 0 0) := c2
  have mixed := L.mixed
  have t72 := L.t72; have a72 := L.a72; have z72 := L.z72; have v72 := L.v72; have u72 := run_underlying L.t72
  have t70 := L.t70; have a70 := L.a70; have z70 := L.z70; have v70 := L.v70; have u70 := run_underlying L.t70
  have t37 := L.t37; have a37 := L.a37; have z37 := L.z37; have v37 := L.v37; have u37 := run_underlying L.t37
  have t127 := L.t127; have a127 := L.a127; have z127 := L.z127; have v127 := L.v127; have u127 := run_underlying L.t127
  have t3 := L.t3; have a3 := L.a3; have z3 := L.z3; have v3 := L.v3; have u3 := run_underlying L.t3
  have t9 := L.t9; have a9 := L.a9; have z9 := L.z9; have v9 := L.v9; have u9 := run_underlying L.t9
  have t5 := X.t5; have a5 := X.a5; have z5 := X.z5; have v5 := X.v5; have u5 := run_underlying X.t5
  go_enter L.f169, Body.n169_ntmps ρ
  go_wp2
  go_region_o
  all_goals (go_wp2; go_ret; exact ⟨rfl, (Below.drew (Below.refl _ w)).alloc (Nat.le_refl _) _⟩)
theorem Q74 (w : World) (a : Addr) (n k : Nat) (h : k ≠ a.block) : (w.freeze a n).heap[k]? = w.heap[k]? := by
  unfold World.freeze
  split
  · rfl
  · simp only [Array.getElem?_modify]
    rw [if_neg (fun e => h e.symm)]
theorem QmY (w : World) (a : Addr) (n k o : Nat) : (w.freeze a n).cell? ⟨k, o, none⟩ = w.cell? ⟨k, o, none⟩ := by
  by_cases h : k = a.block
  · subst h
    unfold World.freeze
    split
    · rfl
    · unfold World.cell?
      simp only [Array.getElem?_modify]
      cases hh : w.heap[a.block]? with
      | none => rfl
      | some ob => cases ob <;> rfl
  · exact World.cell?_of_block (Q74 w a n k h)
theorem Qml (w : World) (a : Addr) (n k : Nat) : (w.freeze a n).shape? k = w.shape? k := by
  by_cases h : k = a.block
  · subst h
    unfold World.freeze
    split
    · rfl
    · unfold World.shape?
      simp only [Array.getElem?_modify]
      cases hh : w.heap[a.block]? with
      | none => rfl
      | some ob => cases ob <;> rfl
  · exact Q3c (Q74 w a n k h)
theorem QoH {O : Nat → Nat → Prop} (w : World) (a : Addr) (n : Nat) (h : ∀ o, O a.block o) : Chg O w (w.freeze a n) := by
  have hsz : (w.freeze a n).heap.size = w.heap.size := by unfold World.freeze; split <;> simp
  refine ⟨?_, ?_, ?_, by rw [hsz]; exact Nat.le_refl _, fun k o hk ho => ⟨QmY w a n k o, ?_⟩, fun k hk ho => ?_, fun k _ => Qml w a n k⟩
  · unfold World.freeze; split <;> rfl
  · unfold World.freeze; split <;> rfl
  · unfold World.freeze; split <;> rfl
  · exact World.frozen?_of_block (Q74 w a n k (fun e => ho (e ▸ h o)))
  · exact Q74 w a n k (fun e => ho 0 (e ▸ h 0))
end
theorem Qro {K : Nat → Type} (a b : Blk K) : QJ 0 [some a, some b] = [(0, a), (1, b)] := rfl
theorem Qq5 {S : Sig} {Fz : Nat → Prop} {w : World} {n : Int} {v : Value} (h : TRep S Fz w (.int .u8 n) v) : v = .int .u8 n := by cases h; rfl
structure Bytes (S : Sig) (l : List (S.K S.u8)) (ns : List Int) : Prop where
  len : ns.length = l.length
  enc : ∀ (i : Nat) (x : S.K S.u8), l[i]? = some x → ∃ n : Int, ns[i]? = some n ∧ S.enc S.u8 x = [.int .u8 n]
section
variable {P : Program} {ρ : Ren} {E : Env}
theorem Qqc (hE : Q0r P E) {w : World} {Fz : Nat → Prop} {cur : Array Value} {o : Nat} {l : List (E.S.K E.S.u8)} (h : ∀ (i : Nat) (x : E.S.K E.S.u8) (j : Nat) (c : Cell E.S.K), l[i]? = some x → (E.S.enc E.S.u8 x)[j]? = some c → ∃ u, cur[o + (i * E.S.sz E.S.u8 + j)]? = some u ∧ TRep E.S Fz w c u) :
    ∃ ns, Bytes E.S l ns ∧ ∀ (j : Nat) n, ns[j]? = some n → cur[o + j]? = some (.int .u8 n) := by
  have one : ∀ x : E.S.K E.S.u8, ∃ n, E.S.enc E.S.u8 x = [.int .u8 n] ∨ True := fun x => ⟨0, .inr trivial⟩
  clear one
  have key : ∀ (i : Nat) (x : E.S.K E.S.u8), l[i]? = some x → ∃ n : Int, E.S.enc E.S.u8 x = [.int .u8 n] ∧ cur[o + i]? = some (.int .u8 n) := by
    intro i x hx
    have hs : E.S.sh E.S.u8 = [.int .u8] := hE.u8sh
    have hsz : E.S.sz E.S.u8 = 1 := hE.u8sz
    obtain ⟨n, hn⟩ : ∃ n : Int, E.S.enc E.S.u8 x = [.int .u8 n] := by
      unfold Sig.enc
      generalize E.S.toT E.S.u8 x = t
      revert t
      rw [hs]
      intro t
      exact ⟨t, rfl⟩
    obtain ⟨u, h1, h2⟩ := h i x 0 (.int .u8 n) hx (by rw [hn]; rfl)
    rw [Qq5 h2, hsz, Nat.mul_one, Nat.add_zero] at h1
    exact ⟨n, hn, h1⟩
  clear h
  induction l generalizing o with
  | nil => exact ⟨[], ⟨rfl, fun i x h => by simp at h⟩, fun j n h => by simp at h⟩
  | cons a l ih =>
    obtain ⟨n, h1, h2⟩ := key 0 a rfl
    obtain ⟨ns, h3, h4⟩ := ih (o := o + 1) (fun i x hx => by
      obtain ⟨n, g1, g2⟩ := key (i + 1) x (by simpa using hx)
      exact ⟨n, g1, by rw [← g2]; congr 1; omega⟩)
    refine ⟨n :: ns, ⟨by simp [h3.len], fun i x hx => ?_⟩, fun j m hm => ?_⟩
    · cases i with
      | zero => simp at hx; subst hx; exact ⟨n, rfl, h1⟩
      | succ i => exact h3.enc i x (by simpa using hx)
    · cases j with
      | zero => simp at hm; subst hm; exact h2
      | succ j => rw [← h4 j m (by simpa using hm)]; congr 1; omega
theorem QmF (hE : Q0r P E) (hT : E.S.bt = some (ρ.t 72)) (hu : E.S.u8 = ρ.t 5) (L : Lays.n169 P ρ) (X : Builder.Extra P ρ) {m : Nat} {A : Q04} (hA : E.ann (ρ.f 169) m = some A) (hX : E.ext (ρ.f 169) m ≠ none)
    (hil : A.inL = ⟨[(0, .c (.ptr 0 0))], [.var true [.self 0, .vec 1], .vec E.S.u8]⟩) (hol : A.outL = ⟨[(0, .c (.d .str))], [.var true [.self 0, .any], .gone]⟩)
    {d : TL E.S.K (jobT E.ann ⟨ρ.f 169, m, none⟩)} {r : TL E.S.K (outT E.ann (ρ.f 169) m)} {l : List (E.S.K E.S.u8)} (hd : encL (jobT E.ann ⟨ρ.f 169, m, none⟩) d = [.arr E.S.u8 l]) (hr : encL (outT E.ann (ρ.f 169) m) r = [.str (E.S.toB l)])
    (hbig : l.length ≤ 140737488355328) : Q2Y P E (ρ.f 169) m d r := by
  intro A' hA'
  obtain rfl : A = A' := Option.some.inj (hA.symm.trans hA')
  refine ⟨[(0, .c (.ptr 0 0))], [some (.var true [.self 0, .vec 1]), some (.vec true E.S.u8 l)], ?_, fun φ Fz w vs hR hS hsz => ?_⟩
  · rw [hd, hil]
    simp [Q0h, Q2a, Q6K, Q13, isVar, Q1m, Q1X, Q31, QfI]
  rw [hil] at hR hS hsz
  rw [Qro] at hR
  have hB0 := hR.rep 0 (.var true [.self 0, .vec 1]) rfl
  have hB1 := hR.rep 1 (.vec true E.S.u8 l) rfl
  obtain ⟨p, hp, ⟨_, ⟨ho, T, hT', hsh⟩, hpv⟩, hpf⟩ := hB0.2 0 (.self 0) rfl
  obtain ⟨v1, hv1, ⟨_, hv1e⟩, hvf⟩ := hB0.2 1 (.vec 1) rfl
  subst hv1e
  have hpf := hpf rfl
  have hvf := hvf rfl
  rw [hT] at hT'
  cases hT'
  have hvs : vs = #[.pointer (some ⟨(φ 0).b, 0, none⟩)] := by
    refine arr1 (hsz hX) ?_
    have := hS 0 _ rfl
    rw [show vs.getD 0 undef = ptrV (φ 0) 0 from this.2]
    unfold ptrV
    rw [ho]
  rw [ho, Nat.zero_add] at hv1
  subst hvs
  have hBb : (φ 0).b < w.heap.size := lt_of_cell hv1
  have fin : ∀ w', Chg (OC φ [(0, Blk.var true [.self 0, .vec 1]), (1, Blk.vec true E.S.u8 l)]) w w' → (∀ o, w'.cell? ⟨(φ 0).b, o, none⟩ = w.cell? ⟨(φ 0).b, o, none⟩) → (∀ o, w'.frozen? ⟨(φ 0).b, o, none⟩ = w.frozen? ⟨(φ 0).b, o, none⟩) →
      Back E.S A (encL (outT E.ann (ρ.f 169) m) r) φ Fz (QJ 0 [some (.var true [.self 0, .vec 1]), some (.vec true E.S.u8 l)]) w (.string (E.S.toB l)) w' := by
    intro w' hC hcell hfr
    have hOC : ∀ k o, OC φ (QJ (K := E.S.K) 0 [some (.var true [.self 0, .undef]), none]) k o → OC φ [(0, Blk.var true [.self 0, .vec 1]), (1, Blk.vec true E.S.u8 l)] k o := by
      rintro k o ⟨id, b, hg, hb, hc⟩
      have : id = 0 ∧ b = .var true [.self 0, .undef] := by
        have hg' : get [(0, Blk.var (K := E.S.K) true [.self 0, .undef])] id = some b := hg
        rw [Qw] at hg'
        split at hg'
        · next h => cases hg'; exact ⟨h, rfl⟩
        · cases hg'
      obtain ⟨rfl, rfl⟩ := this
      exact ⟨0, _, rfl, rfl, hc⟩
    have one : ∀ id b, get (QJ (K := E.S.K) 0 [some (.var true [.self 0, .undef]), none]) id = some b → id = 0 ∧ b = .var true [.self 0, .undef] := fun id b hg => by
      have hg' : get [(0, Blk.var (K := E.S.K) true [.self 0, .undef])] id = some b := hg
      rw [Qw] at hg'
      split at hg'
      · next h => cases hg'; exact ⟨h, rfl⟩
      · cases hg'
    refine ⟨[(0, .c (.str (E.S.toB l)))], [some (.var true [.self 0, .undef]), none], φ, Fz, ?_, ⟨?_, ?_, ?_, ?_, ?_, hR.inv.keep hC hR.notFz (fun _ h => h)⟩, ?_, ?_, ?_, fun _ h => h, fun k h => .inl h, fun k o h => .inl (hOC k o h), hC⟩
    · rw [hr, hol]
      simp [Q0h, Q2a, Q6K, Q13, Qli, isVar, Q1m, Q1X, Q31]
    · intro id b hg
      obtain ⟨rfl, rfl⟩ := one id b hg
      rw [hol]; exact Nat.zero_lt_succ _
    · intro id b hg
      obtain ⟨rfl, rfl⟩ := one id b hg
      refine ⟨hB0.1, fun j c hj => ?_⟩
      match j, hj with
      | 0, hj =>
        cases hj
        refine ⟨p, by rw [hcell]; exact hp, ⟨by rw [hol]; exact Nat.zero_lt_succ _, ⟨ho, _, hT, (hC.shape _ hBb).trans hsh⟩, hpv⟩, fun _ => by rw [hfr]; exact hpf⟩
      | 1, hj =>
        cases hj
        exact ⟨_, by rw [hcell, ho, Nat.zero_add]; exact hv1, trivial, fun _ => by rw [hfr]; exact hvf⟩
    · intro id id' b b' hg hg' hne
      obtain ⟨rfl, rfl⟩ := one id b hg
      obtain ⟨rfl, rfl⟩ := one id' b' hg'
      exact absurd rfl hne
    · intro id b hg hb k o hc
      obtain ⟨rfl, rfl⟩ := one id b hg
      exact hR.fz 0 (.var true [.self 0, .vec 1]) rfl rfl k o hc
    · exact fun k hk => Nat.lt_of_lt_of_le (hR.lt k hk) hC.size
    · exact TRep.str _
    · intro i cs cs0 _ _
      exact ⟨rfl, rfl⟩
    · intro i e e' h1 h2
      rfl
  have hdr : ∀ {O : Nat → Nat → Prop}, Chg O w w.drew := fun {O} => Chg.drew O w
  have c1 : w.drew.cell? ⟨(φ 0).b, 1, none⟩ = some (.slice (φ 1).addr (φ 1).len (φ 1).cap) := hv1
  have hnil : l = [] → E.S.toB l = ⟨#[]⟩ := fun h => by
    subst h
    exact hE.toB [] [] (fun i x h => by simp at h) rfl
  have hlen := hB1.1
  by_cases hcap : (φ 1).cap = 0
  · have hl : l = [] := List.eq_nil_of_length_eq_zero (by have := hB1.2.2.1; omega)
    rw [hcap] at c1
    rw [hlen, hl] at c1
    cases ha : (φ 1).addr with
    | none =>
      rw [ha] at c1
      refine (Qe5 L X (φ 0).b none none 0 0 ⟨#[]⟩ w w.drew c1 rfl (Lib.run_unsafeString_none w.drew _ _ _ none)).mono ?_
      rintro e w' ⟨rfl, rfl⟩
      exact ⟨_, rfl, by have := fin w.drew hdr (fun _ => rfl) (fun _ => rfl); rw [hnil hl] at this; exact this⟩
    | some ad =>
      rw [ha] at c1
      obtain ⟨sh, hs⟩ := Option.isSome_iff_exists.1 (hB1.2.2.2.1 ad ha)
      refine (Qi2 L X (φ 0).b ad sh w c1 hBb hs).mono ?_
      rintro e w' ⟨rfl, hb⟩
      refine ⟨_, rfl, ?_⟩
      have hbk : w'.heap[(φ 0).b]? = w.heap[(φ 0).b]? := by obtain ⟨_, _, _, _, h5⟩ := hb; exact h5 _ hBb
      have := fin w' (Chg.of_below hb) (fun o => World.cell?_of_block hbk) (fun o => World.frozen?_of_block hbk)
      rw [hnil hl] at this; exact this
  · obtain ⟨ha, _, cur, el, fz, hh, hel, hsize, hun, hcells⟩ := hB1.2.2.2.2 hcap
    rw [ha] at c1
    have hSD : (Builtin.unsafeSliceData_ #[(ρ.t 37)] (ρ.t 127) #[.slice (some ⟨(φ 1).b, (φ 1).o, none⟩) (φ 1).len (φ 1).cap]).run P w.drew = .ok (.pointer (some ⟨(φ 1).b, (φ 1).o, none⟩)) w.drew := Lib.run_unsafeSliceData_row _ _ _ _ _ _ hcap
    cases hl : l with
    | nil =>
      have hl0 : (φ 1).len = 0 := by rw [hlen, hl]; rfl
      rw [hl0] at c1 hSD
      refine (Qe5 L X (φ 0).b _ _ 0 _ ⟨#[]⟩ w w.drew c1 hSD (Lib.run_unsafeString_none w.drew _ _ _ _)).mono ?_
      rintro e w' ⟨rfl, rfl⟩
      exact ⟨_, rfl, by have := fin w.drew hdr (fun _ => rfl) (fun _ => rfl); rw [hnil hl] at this; rw [← hl]; exact this⟩
    | cons x0 l0 =>
      obtain ⟨ns, hB, hns⟩ := Qqc hE hcells
      have hsz1 : E.S.sz E.S.u8 = 1 := hE.u8sz
      rw [hsz1, Nat.mul_one] at hsize
      have hn0 : ns ≠ [] := by
        intro h
        have := hB.len
        rw [h, hl] at this; simp at this
      have hnl : (φ 1).len = ns.length := by rw [hlen, hB.len]
      have hcap2 := hB1.2.2.1
      have hshape : w.drew.shape? (φ 1).b = some (ρ.t 5, cur.size) := by
        show w.shape? (φ 1).b = _
        unfold World.shape?
        rw [hh, hel, hu]
      have hUS := Qg2 w.drew (ρ.t 127) (ρ.t 3) (ρ.t 9) (ρ.t 5) L.t127 X.cellsByte (φ 1).b (φ 1).o cur.size hshape ns hn0 (by have := hB.len; omega) (by have := hB.len; omega) (fun j x hx => by
        rw [add_lit]
        show w.cell? ⟨(φ 1).b, (φ 1).o + j, none⟩ = _
        rw [Q3t hh]; exact hns j x hx)
      rw [hnl] at c1 hSD
      refine (Qe5 L X (φ 0).b _ _ _ _ _ w _ c1 hSD hUS).mono ?_
      rintro e w' ⟨rfl, rfl⟩
      refine ⟨_, rfl, ?_⟩
      have hne : (φ 0).b ≠ (φ 1).b := fun h => hR.dis 0 1 _ _ rfl rfl (by decide) rfl (φ 0).b (φ 0).o ⟨rfl, Nat.le_refl _, by simp⟩ ⟨hcap, h⟩
      have hbk := Q74 w.drew ⟨(φ 1).b, (φ 1).o, none⟩ ns.length (φ 0).b hne
      have := fin (w.drew.freeze ⟨(φ 1).b, (φ 1).o, none⟩ ns.length) (hdr.trans (QoH w.drew _ _ (fun o => ⟨1, _, rfl, rfl, hcap, rfl⟩))) (fun o => World.cell?_of_block hbk) (fun o => World.frozen?_of_block hbk)
      rw [hE.toB l ns hB.enc hB.len] at this
      rw [← hl]; exact this
theorem Q88 (w : World) (a : Addr) (v : Value) (k : Nat) (h : k ≠ a.block) : (w.setCell a v).heap[k]? = w.heap[k]? := by
  unfold World.setCell
  simp only [Array.getElem?_modify]
  rw [if_neg (fun e => h e.symm)]
theorem Qn5 {O : Nat → Nat → Prop} (w : World) (b o : Nat) (v : Value) (h : O b o) : Chg O w (w.setCell ⟨b, o, none⟩ v) := by
  have at_ : ∀ cur el fz, w.heap[b]? = some (.cells cur el fz) → (w.setCell ⟨b, o, none⟩ v).heap[b]? = some (.cells (cur.setIfInBounds o v) el fz) := fun cur el fz hh => by
    unfold World.setCell
    simp [Array.getElem?_modify, hh]
  have non : ∀ ob, w.heap[b]? = some ob → (∀ cur el fz, ob ≠ .cells cur el fz) → (w.setCell ⟨b, o, none⟩ v).heap[b]? = some ob := fun ob hh hne => by
    unfold World.setCell
    simp only [Array.getElem?_modify, hh, if_true, Option.map_some]
  refine ⟨rfl, rfl, rfl, by simp [World.setCell], fun k x hk hx => ?_, fun k hk hx => Q88 w _ v k (fun e => hx o (e ▸ h)), fun k hk => ?_⟩
  · by_cases hb : k = b
    · subst hb
      have hxo : x ≠ o := fun e => hx (e ▸ h)
      cases hh : w.heap[k]? with
      | none => rw [Array.getElem?_eq_none_iff] at hh; omega
      | some ob =>
        cases ob with
        | cells cur el fz =>
          have h2 := at_ cur el fz hh
          refine ⟨by rw [Q3t h2, Q3t hh]; simp [Array.getElem?_setIfInBounds, hxo.symm], by simp [World.frozen?, h2, hh]⟩
        | _ =>
          have h2 := non _ hh (fun _ _ _ => by simp)
          exact ⟨World.cell?_of_block (h2.trans hh.symm), World.frozen?_of_block (h2.trans hh.symm)⟩
    · exact ⟨World.cell?_of_block (Q88 w _ v k hb), World.frozen?_of_block (Q88 w _ v k hb)⟩
  · by_cases hb : k = b
    · subst hb
      cases hh : w.heap[k]? with
      | none => rw [Array.getElem?_eq_none_iff] at hh; omega
      | some ob =>
        cases ob with
        | cells cur el fz =>
          have h2 := at_ cur el fz hh
          simp [World.shape?, h2, hh]
        | _ =>
          have h2 := non _ hh (fun _ _ _ => by simp)
          exact Q3c (h2.trans hh.symm)
    · exact Q3c (Q88 w _ v k hb)
theorem setCell_at {w : World} {b o : Nat} {v u : Value} (h : w.cell? ⟨b, o, none⟩ = some u) : (w.setCell ⟨b, o, none⟩ v).cell? ⟨b, o, none⟩ = some v := by
  have hlt := lt_of_cell h
  cases hh : w.heap[b]? with
  | none => rw [Array.getElem?_eq_none_iff] at hh; omega
  | some ob =>
    cases ob with
    | cells cur el fz =>
      have h2 : (w.setCell ⟨b, o, none⟩ v).heap[b]? = some (.cells (cur.setIfInBounds o v) el fz) := by
        unfold World.setCell
        simp [Array.getElem?_modify, hh]
      rw [Q3t hh] at h
      have ho := (Array.getElem?_eq_some_iff.1 h).1
      rw [Q3t h2]
      simp [ho]
    | _ => simp [World.cell?, hh] at h
theorem QjJ {w : World} {b o x : Nat} {v : Value} (h : b < w.heap.size) : (w.setCell ⟨b, o, none⟩ v).frozen? ⟨b, x, none⟩ = w.frozen? ⟨b, x, none⟩ := by
  unfold World.setCell World.frozen?
  simp only [Array.getElem?_modify, if_true]
  cases hh : w.heap[b]? with
  | none => rfl
  | some ob => cases ob <;> rfl
theorem Qnh (hE : Q0r P E) (hT : E.S.bt = some (ρ.t 72)) (L : Lays.n240 P ρ) (X : Builder.X72 P ρ) {m : Nat} {A : Q04} (hA : E.ann (ρ.f 240) m = some A) (hX : E.ext (ρ.f 240) m ≠ none)
    (hil : A.inL = ⟨[(0, .c (.ptr 0 0))], [.var true [.self 0]]⟩) (hol : A.outL = ⟨[], [.var true [.self 0]]⟩)
    {d : TL E.S.K (jobT E.ann ⟨ρ.f 240, m, none⟩)} {r : TL E.S.K (outT E.ann (ρ.f 240) m)} (hd : encL (jobT E.ann ⟨ρ.f 240, m, none⟩) d = []) (hr : encL (outT E.ann (ρ.f 240) m) r = []) : Q2Y P E (ρ.f 240) m d r := by
  intro A' hA'
  obtain rfl : A = A' := Option.some.inj (hA.symm.trans hA')
  refine ⟨[(0, .c (.ptr 0 0))], [some (.var true [.self 0])], ?_, fun φ Fz w vs hR hS hsz => ?_⟩
  · rw [hd, hil]
    simp [Q0h, Q2a, Q6K, Q13, isVar, Q1m, Q1X, Q31]
  rw [hil] at hR hS hsz
  have hB0 := hR.rep 0 (.var true [.self 0]) rfl
  obtain ⟨p, hp, ⟨_, ⟨ho, T, hT', hsh⟩, hpv⟩, hpf⟩ := hB0.2 0 (.self 0) rfl
  have hpf := hpf rfl
  rw [hT] at hT'
  cases hT'
  have hvs : vs = #[.pointer (some ⟨(φ 0).b, 0, none⟩)] := by
    refine arr1 (hsz hX) ?_
    have := hS 0 _ rfl
    rw [show vs.getD 0 undef = ptrV (φ 0) 0 from this.2]
    unfold ptrV
    rw [ho]
  rw [ho, Nat.zero_add] at hp hpf
  subst hvs
  have hBb : (φ 0).b < w.heap.size := lt_of_cell hp
  have one : ∀ id b, get (QJ (K := E.S.K) 0 [some (.var true [.self 0])]) id = some b → id = 0 ∧ b = .var true [.self 0] := fun id b hg => by
    have hg' : get [(0, Blk.var (K := E.S.K) true [.self 0])] id = some b := hg
    rw [Qw] at hg'
    split at hg'
    · next h => cases hg'; exact ⟨h, rfl⟩
    · cases hg'
  have fin : ∀ w' q, Chg (OC φ (QJ (K := E.S.K) 0 [some (.var true [.self 0])])) w w' → w'.cell? ⟨(φ 0).b, 0, none⟩ = some q → (q = .pointer none ∨ q = ptrV (φ 0) 0) → w'.frozen? ⟨(φ 0).b, 0, none⟩ = false →
      Back E.S A (encL (outT E.ann (ρ.f 240) m) r) φ Fz (QJ 0 [some (.var true [.self 0])]) w (.tuple #[]) w' := by
    intro w' q hC hcell hq hfr
    refine ⟨[], [some (.var true [.self 0])], φ, Fz, ?_, ⟨?_, ?_, ?_, ?_, ?_, hR.inv.keep hC hR.notFz (fun _ h => h)⟩, ⟨[], rfl, .nil⟩, ?_, ?_, fun _ h => h, fun k h => .inl h, fun k o h => .inl h, hC⟩
    · rw [hr, hol]
      simp [Q0h, Q2a, isVar, Q1m, Q1X, Q31, Q13]
    · intro id b hg
      obtain ⟨rfl, rfl⟩ := one id b hg
      rw [hol]; exact Nat.zero_lt_succ _
    · intro id b hg
      obtain ⟨rfl, rfl⟩ := one id b hg
      refine ⟨hB0.1, fun j c hj => ?_⟩
      match j, hj with
      | 0, hj =>
        cases hj
        exact ⟨q, by rw [ho]; exact hcell, ⟨by rw [hol]; exact Nat.zero_lt_succ _, ⟨ho, _, hT, (hC.shape _ hBb).trans hsh⟩, hq⟩, fun _ => by rw [ho]; exact hfr⟩
    · intro id id' b b' hg hg' hne
      obtain ⟨rfl, rfl⟩ := one id b hg
      obtain ⟨rfl, rfl⟩ := one id' b' hg'
      exact absurd rfl hne
    · intro id b hg hb k o hc
      obtain ⟨rfl, rfl⟩ := one id b hg
      exact hR.fz 0 (.var true [.self 0]) rfl rfl k o hc
    · exact fun k hk => Nat.lt_of_lt_of_le (hR.lt k hk) hC.size
    · intro i cs cs0 _ _
      exact ⟨rfl, rfl⟩
    · intro i e e' h1 h2
      rfl
  have hself : ptrV (φ 0) 0 = .pointer (some ⟨(φ 0).b, 0, none⟩) := by unfold ptrV; rw [ho]
  rcases hpv with rfl | rfl
  · refine (Any.Builder_copyCheck_fresh L X (φ 0).b w hp hsh hpf).mono ?_
    rintro e w' ⟨rfl, rfl⟩
    exact ⟨_, rfl, fin _ _ (Qn5 w _ _ _ ⟨0, _, rfl, rfl, ⟨rfl, by rw [ho]; exact Nat.zero_le _, by rw [ho]; exact Nat.zero_lt_succ _⟩⟩) (setCell_at hp) (.inr hself.symm) ((QjJ hBb).trans hpf)⟩
  · rw [hself] at hp
    refine (Any.Builder_copyCheck_used L X (φ 0).b w hp).mono ?_
    rintro e w' ⟨rfl, rfl⟩
    exact ⟨_, rfl, fin _ _ (Chg.refl _ _) hp (.inr hself.symm) hpf⟩
end
end Go.Ve
namespace Go.Ve
open Go.RowKit
set_option linter.unusedVariables false
set_option linter.unusedSimpArgs false
def tsT (P : Program) (t : TypeId) : Option TS :=
  match P.underlying t with
  | some (.int k) => some (.int k)
  | some .bool => some .bool
  | some .string => some .str
  | _ => none
def Qmn : TS → TS → Bool
  | .int k, .int k' => Q1M k k'
  | .bool, .bool | .str, .str => true
  | _, _ => false
theorem QoY {a b : TS} (h : Qmn a b = true) : a = b := by
  cases a <;> cases b <;> first | rfl | (cases h; done) | (rename_i k k'; cases k <;> cases k' <;> first | rfl | cases h)
def QhF (P : Program) : Nat → List Field → List TS → Bool
  | _, [], [] => true
  | k, f :: l, t :: ts => !(f.name == "_") && Nat.beq f.offset k && (match tsT P f.type with | some t' => Qmn t' t | none => false) && QhF P (k + 1) l ts
  | _, _, _ => false
theorem QiE {P : Program} {t : TypeId} {s : TS} {xs : Array Value} {k : Nat} {v : Value} {w : World} (h : tsT P t = some s) (hx : xs[k]? = some v) : (Go.part t xs k).run P w = .ok v w := by
  unfold tsT at h
  split at h <;> first | (next hu => simp [Go.part, isAgg, run_underlying hu, hx]) | cases h
theorem Qm9 {P : Program} {t : TypeId} {s : TS} {a b : Value} {r : Bool} {w : World} {d : Nat} (h : tsT P t = some s) (ha : tyV s a) (hb : tyV s b) (he : eqV a b = some r) : (Op.equalIn (d + 1) t a b).run P w = .ok r w := by
  unfold tsT at h
  split at h
  · next k hu =>
    cases h
    obtain ⟨x, rfl⟩ := ha
    obtain ⟨y, rfl⟩ := hb
    have hk : Q1M k k = true := by cases k <;> rfl
    simp only [eqV, hk, cond_true, Option.some.injEq] at he
    simp [Op.equalIn, run_underlying hu, he]
  · next hu =>
    cases h
    obtain ⟨x, rfl⟩ := ha
    obtain ⟨y, rfl⟩ := hb
    simp only [eqV, Option.some.injEq] at he
    simp [Op.equalIn, run_underlying hu, he]
  · next hu =>
    cases h
    obtain ⟨x, rfl⟩ := ha
    obtain ⟨y, rfl⟩ := hb
    simp only [eqV, Option.some.injEq, seq] at he
    simp [Op.equalIn, run_underlying hu, he, beq_toListBytes]
  · cases h
theorem Qk4 {P : Program} {w : World} {d : Nat} {xs ys : Array Value} : ∀ {fs : List Field} {ts : List TS} {k : Nat} {r : Bool}, QhF P k fs ts = true → fs ≠ [] → All2 tyV ts (xs.toList.drop k) → All2 tyV ts (ys.toList.drop k) → eqVs (xs.toList.drop k) (ys.toList.drop k) = some r → (Op.eqFields (d + 1) xs ys fs).run P w = .ok r w
  | [], _, _, _, _, h, _, _, _ => absurd rfl h
  | f :: fs, [], k, r, hf, _, _, _, _ => by cases hf
  | f :: fs, t :: ts, k, r, hf, _, hxt, hyt, he => by
    simp only [QhF, Bool.and_eq_true, Bool.not_eq_true'] at hf
    obtain ⟨⟨⟨h1, h2⟩, h3⟩, h4⟩ := hf
    have hn : f.name ≠ "_" := by simpa using h1
    have ho : f.offset = k := Nat.eq_of_beq_eq_true h2
    obtain ⟨t', ht', h3⟩ : ∃ t', tsT P f.type = some t' ∧ Qmn t' t = true := by
      cases hq : tsT P f.type with
      | none => rw [hq] at h3; cases h3
      | some t' => rw [hq] at h3; exact ⟨t', rfl, h3⟩
    obtain rfl := QoY h3
    cases hx : xs.toList.drop k with
    | nil => rw [hx] at hxt; cases hxt
    | cons a as_ =>
      cases hy : ys.toList.drop k with
      | nil => rw [hy] at hyt; cases hyt
      | cons b bs =>
        have ha : xs[k]? = some a := by rw [← Array.getElem?_toList, ← List.head?_drop, hx]; rfl
        have hb : ys[k]? = some b := by rw [← Array.getElem?_toList, ← List.head?_drop, hy]; rfl
        have hxd : xs.toList.drop (k + 1) = as_ := by have := congrArg (List.drop 1) hx; simpa [List.drop_drop] using this
        have hyd : ys.toList.drop (k + 1) = bs := by have := congrArg (List.drop 1) hy; simpa [List.drop_drop] using this
        rw [hx] at hxt he
        rw [hy] at hyt he
        cases hxt with
        | cons ta tas =>
          cases hyt with
          | cons tb tbs =>
            rw [Op.eqFields, if_pos hn, ho]
            simp only [Sem.run_bind, QiE ht' ha, QiE ht' hb, Result.andThen_ok]
            cases fs with
            | nil =>
              cases ts with
              | cons _ _ => cases h4
              | nil =>
                cases tas
                cases tbs
                have he' : eqV a b = some r := he
                rw [Qm9 ht' ta tb he']
                simp only [Result.andThen_ok]
                cases r <;> simp [Op.eqFields]
            | cons f2 fs2 =>
              cases as_ with
              | nil =>
                cases tas
                cases h4
              | cons a2 as2 =>
                cases bs with
                | nil => cases tbs; cases h4
                | cons b2 bs2 =>
                  have he' : (match eqV a b, eqVs (a2 :: as2) (b2 :: bs2) with | some x, some y => some (x && y) | _, _ => none) = some r := he
                  split at he'
                  · next x y hx2 hy2 =>
                    cases he'
                    rw [Qm9 ht' ta tb hx2]
                    simp only [Result.andThen_ok]
                    have ih := Qk4 (P := P) (w := w) (d := d) (xs := xs) (ys := ys) (fs := f2 :: fs2) (ts := ts) (k := k + 1) (r := y) h4 (by simp) (by rw [hxd]; exact tas) (by rw [hyd]; exact tbs) (by rw [hxd, hyd]; exact hy2)
                    cases x with
                    | false => simp
                    | true => simpa using ih
                  · cases he'
def eqsB (P : Program) (t : TypeId) (fs : List Field) (ts : List TS) : Bool := !(P.eqGuardType P.depth t) && (!(P.stoodInHeld t) && (QhF P 0 fs ts && !fs.isEmpty))
theorem Qoe {P : Program} {t : TypeId} {fs : Array Field} {ts : List TS} (ht : P.underlying t = some (.struct fs)) (h : eqsB P t fs.toList ts = true) : QdY P t ts := by
  simp only [eqsB, Bool.and_eq_true, Bool.not_eq_true'] at h
  obtain ⟨h1, h2, h3, h4⟩ := h
  refine ⟨h1, fun xs ys b w hx hy he => ?_⟩
  have hf : P.fieldsOf t = fs := by simp [Program.fieldsOf, ht]
  rw [show Op.equal t = Op.equalIn (9999 + 1) t from rfl, run_equalIn_struct (P := P) w 9999 t _ _ (by rw [hf]; exact ht) h2, hf]
  exact Qk4 (d := 9998) (ts := ts) (k := 0) h3 (by intro e; rw [e] at h4; cases h4) (by simpa using hx) (by simpa using hy) (by simpa using he)
theorem Qrc {P : Program} : ∀ t ts, get ([] : List (Nat × List TS)) t = some ts → QdY P t ts := fun t ts h => by cases h
theorem QqG {P : Program} {a : Nat} {x : List TS} {l : List (Nat × List TS)} (h : QdY P a x) (hl : ∀ t ts, get l t = some ts → QdY P t ts) : ∀ t ts, get ((a, x) :: l) t = some ts → QdY P t ts := fun t ts ht => by
  rw [Qw] at ht
  split at ht
  · next e => cases ht; subst e; exact h
  · exact hl t ts ht
end Go.Ve
namespace Go.Ve
def bs (l : List Nat) : ByteArray := ⟨(l.map UInt8.ofNat).toArray⟩
def wi64 (n : Int) : Int := IntKind.i64.wrap n
def wu64 (n : Int) : Int := IntKind.u64.wrap n
def wu8 (n : Int) : Int := IntKind.u8.wrap n
theorem Qc {E : Env} {f m : Nat} (h : E.ext f m = none) {d : TL E.S.K (jobT E.ann ⟨f, m, none⟩)} {x : Option (TL E.S.K (outT E.ann f m))} (hx : Q5j E (Sem E) ⟨f, m, none⟩ d = x) : Sem E ⟨f, m, none⟩ d = x := (Qrl E h d).trans hx
theorem Qk {E : Env} {f m l : Nat} {d : TL E.S.K (jobT E.ann ⟨f, m, some l⟩)} {x : Option (TL E.S.K (outT E.ann f m))} (hx : Q5j E (Sem E) ⟨f, m, some l⟩ d = x) : Sem E ⟨f, m, some l⟩ d = x := (Qpl E f m l d).trans hx
end Go.Ve
namespace Go.Ve
theorem Qki {S : Sig} {D : Nat → Prop} {φ : Nat → Loc} {Fz : Nat → Prop} {w : World} {c : Cell S.K} {v : Value} (h : TRep S Fz w c v) : CRep S D φ Fz w c v := by
  cases c <;> first | exact h | cases h
theorem Qok {S : Sig} {D : Nat → Prop} {φ : Nat → Loc} {Fz : Nat → Prop} {w : World} {cs : List (Cell S.K)} {vs : List Value} (h : All2 (TRep S Fz w) cs vs) : All2 (CRep S D φ Fz w) cs vs := Q2B (fun _ _ h => Qki h) h
theorem Qs8 {S : Sig} {D : Nat → Prop} {φ : Nat → Loc} {Fz : Nat → Prop} {w : World} {c : Cell S.K} {v : Value} (h : All2 (TRep S Fz w) [c] [v]) : CRep S D φ Fz w c v := by
  cases h with
  | cons h _ => exact Qki h
end Go.Ve
namespace Go.Ve
set_option linter.unusedVariables false
set_option linter.unusedSimpArgs false
@[simp] theorem Qf {α : Type} (x y : Option α) : sif true x y = x := rfl
@[simp] theorem Qb {α : Type} (x y : Option α) : sif false x y = y := rfl
@[simp] theorem Qc0 {α : Type} (b : Bool) (x : Option α) : sif b x x = x := by cases b <;> rfl
theorem Qe {α : Type} {b : Bool} {x y : Option α} (h : b = true) : sif b x y = x := by rw [h]; rfl
theorem Q1K {α : Type} {b : Bool} {x y : Option α} (h : b = false) : sif b x y = y := by rw [h]; rfl
theorem Qj {α : Type} {p : Prop} [Decidable p] {x y : Option α} (h : p) : sif (decide p) x y = x := by rw [decide_eq_true h]; rfl
theorem Qi {α : Type} {p : Prop} [Decidable p] {x y : Option α} (h : ¬ p) : sif (decide p) x y = y := by rw [decide_eq_false h]; rfl
theorem Q1Q {α : Type} (b : Bool) (x y : Option α) : sif (!b) x y = sif b y x := by cases b <;> rfl
theorem Q52 {α : Type} (b : Bool) (x y : α) : sif b (some x) (some y) = some (if b = true then x else y) := by cases b <;> rfl
theorem Qu (b c : Bool) : sif b (some c) (some false) = some (b && c) := by cases b <;> rfl
theorem Qk1 (b c : Bool) : sif b (some true) (some c) = some (b || c) := by cases b <;> rfl
@[simp] theorem Q0 {α β : Type} (x : α) (f : α → Option β) : sbind (some x) f = f x := rfl
@[simp] theorem Qsc {α β : Type} (f : α → Option β) : sbind none f = none := rfl
theorem Qse {α β : Type} {o : Option α} {x : α} (h : o = some x) (f : α → Option β) : sbind o f = f x := by rw [h]; rfl
@[simp] theorem Qsd {α : Type} (x : Option α) : sboth x x = x := by unfold sboth; rw [if_pos rfl]
theorem Q5S (n : Int) : wi64 n = if 9223372036854775808 ≤ n % 18446744073709551616 then n % 18446744073709551616 - 18446744073709551616 else n % 18446744073709551616 := by
  have : wi64 n = if (true && decide (n % (2 ^ 64) ≥ 2 ^ (64 - 1))) = true then n % (2 ^ 64) - 2 ^ 64 else n % (2 ^ 64) := rfl
  rw [this, show (2 : Int) ^ 64 = 18446744073709551616 from by decide, show (2 : Int) ^ (64 - 1) = 9223372036854775808 from by decide]
  simp
theorem Qql (n : Int) : wu64 n = n % 18446744073709551616 := by
  have : wu64 n = if (false && decide (n % (2 ^ 64) ≥ 2 ^ (64 - 1))) = true then n % (2 ^ 64) - 2 ^ 64 else n % (2 ^ 64) := rfl
  rw [this, show (2 : Int) ^ 64 = 18446744073709551616 from by decide]
  simp
theorem QjO (n : Int) : wu8 n = n % 256 := by
  have : wu8 n = if (false && decide (n % (2 ^ 8) ≥ 2 ^ (8 - 1))) = true then n % (2 ^ 8) - 2 ^ 8 else n % (2 ^ 8) := rfl
  rw [this, show (2 : Int) ^ 8 = 256 from by decide]
  simp
theorem Qq {n : Int} (h1 : -9223372036854775808 ≤ n) (h2 : n ≤ 9223372036854775807) : wi64 n = n := by
  rw [Q5S]; split <;> omega
theorem Q8G {n : Int} (h1 : 0 ≤ n) (h2 : n ≤ 18446744073709551615) : wu64 n = n := by rw [Qql]; omega
theorem Qh {n : Nat} (h : n < 9223372036854775807) : wi64 ((n : Int) + 1) = ((n + 1 : Nat) : Int) := by rw [Qq (by omega) (by omega)]; rfl
theorem Q0n {a b c : Int} (h1 : a ≤ b) (h2 : b ≤ c) : le3 a b c = true := by simp [le3, h1, h2]
theorem Q4U {a b c : Int} (h1 : a ≤ b) (h2 : b < c) : lt3 a b c = true := by simp [lt3, h1, h2]
theorem Q38 {n b : Nat} (h : n * b ≤ 140737488355328) : room n b = true := Nat.ble_eq_true_of_le h
theorem Q6H {a b : ByteArray} (h : a.size + b.size ≤ 9223372036854775807) : joins a b = true := Nat.ble_eq_true_of_le h
theorem Qbz {a b : ByteArray} : seq a b = true ↔ a = b := by
  unfold seq
  rw [beq_iff_eq]
  constructor
  · intro h
    have : a.data.toList = b.data.toList := by simpa [ByteArray.toList_eq] using h
    cases a; cases b; simp_all
  · rintro rfl; rfl
theorem Q2E (a : ByteArray) : seq a a = true := Qbz.2 rfl
theorem Qq2 (a b : ByteArray) : seq a b = decide (a = b) := by
  cases h : seq a b with
  | true => simp [Qbz.1 h]
  | false =>
    have : ¬ a = b := fun e => by rw [e, Q2E] at h; cases h
    simp [this]
theorem Qrf (l : List Nat) : (bs l).size = l.length := by
  show (l.map UInt8.ofNat).toArray.size = _
  simp
theorem Qz (l : List Int) : (toB l).size = l.length := by
  show (l.map _).toArray.size = _
  simp
theorem Q4w {α : Type} (l : List α) (i : Nat) : idx l (i : Int) = l[i]? := by unfold idx; rw [if_pos (by omega)]; rfl
theorem Qg {α : Type} {l : List α} {i : Nat} {x : α} (h : l[i]? = some x) : idx l (i : Int) = some x := by rw [Q4w, h]
theorem Qrt {α : Type} {l : List α} {i : Int} (h : 0 ≤ i) : idx l i = l[i.toNat]? := by unfold idx; rw [if_pos h]
theorem Q7y {α σ R : Type} (l : List α) (F : Nat → σ → Option R) (m : List α → σ → Option R) (Inv : Nat → σ → Prop) (h0 : ∀ s, Inv l.length s → F l.length s = m [] s)
    (hs : ∀ i x r s, l[i]? = some x → i < l.length → l.drop i = x :: r → Inv i s → (∀ s, Inv (i + 1) s → F (i + 1) s = m r s) → F i s = m (x :: r) s) : ∀ i s, i ≤ l.length → Inv i s → F i s = m (l.drop i) s := by
  suffices ∀ n i s, l.length = i + n → Inv i s → F i s = m (l.drop i) s from fun i s hi => this (l.length - i) i s (by omega)
  intro n
  induction n with
  | zero =>
    intro i s hi hI
    obtain rfl : i = l.length := by omega
    rw [List.drop_length]
    exact h0 s hI
  | succ n ih =>
    intro i s hi hI
    have hlt : i < l.length := by omega
    have hd : l.drop i = l[i] :: l.drop (i + 1) := List.drop_eq_getElem_cons hlt
    rw [hd]
    exact hs i _ _ s (List.getElem?_eq_getElem hlt) hlt hd hI (fun s hI' => ih (i + 1) s (by omega) hI')
theorem QiX {σ R : Type} (n : Nat) (F : Nat → σ → R) (m : Nat → σ → R) (Inv : Nat → σ → Prop) (h0 : ∀ s, Inv n s → F n s = m n s)
    (hs : ∀ i s, i < n → Inv i s → (∀ s, Inv (i + 1) s → F (i + 1) s = m (i + 1) s) → F i s = m i s) : ∀ i s, i ≤ n → Inv i s → F i s = m i s := by
  suffices ∀ k i s, n = i + k → Inv i s → F i s = m i s from fun i s hi => this (n - i) i s (by omega)
  intro k
  induction k with
  | zero => intro i s hi hI; have e : n = i := by omega
            rw [e] at h0; exact h0 s hI
  | succ k ih => intro i s hi hI; exact hs i s (by omega) hI (fun s hI' => ih (i + 1) s (by omega) hI')
theorem Q6E {α β R : Type} (l : List α) (g : α → β) (F : Nat → List β → Option R) (res : List β → R) (h0 : ∀ out, out.length = l.length → F l.length out = some (res out))
    (hs : ∀ i x out, l[i]? = some x → i < l.length → out.length = l.length → F i out = F (i + 1) (out.set i (g x))) (out : List β) (ho : out.length = l.length) : F 0 out = some (res (l.map g)) := by
  have key : ∀ n i out, l.length = i + n → out.length = l.length → F i out = some (res (out.take i ++ (l.drop i).map g)) := by
    intro n
    induction n with
    | zero =>
      intro i out hi ho
      obtain rfl : i = l.length := by omega
      rw [h0 out ho, List.drop_length, List.map_nil, List.append_nil, List.take_of_length_le (by omega)]
    | succ n ih =>
      intro i out hi ho
      have hlt : i < l.length := by omega
      rw [hs i l[i] out (List.getElem?_eq_getElem hlt) hlt ho, ih (i + 1) _ (by omega) (by simpa using ho)]
      rw [List.drop_eq_getElem_cons hlt, List.map_cons]
      congr 2
      have h1 : i < (out.set i (g l[i])).length := by simp; omega
      rw [List.take_succ_eq_append_getElem h1]
      simp [List.take_set_of_le]
  rw [key l.length 0 out (by omega) ho]
  simp
theorem Qn {n b k : Nat} (h : n * b ≤ k) (hb : 1 ≤ b) : n ≤ k := Nat.le_trans (Nat.le_mul_of_pos_right n (by omega)) h
theorem Qo {α : Type} {l : List α} {i : Nat} {x : α} (h : l[i]? = some x) : x ∈ l := List.mem_of_getElem? h
theorem Q8r {α R : Type} (l : List α) (F : Nat → Option R) (r : Option R) (h0 : F l.length = r) (hs : ∀ i x, l[i]? = some x → i < l.length → F i = F (i + 1)) : F 0 = r := by
  have key : ∀ n i, l.length = i + n → F i = r := by
    intro n
    induction n with
    | zero => intro i hi; obtain rfl : i = l.length := by omega
              exact h0
    | succ n ih => intro i hi; rw [hs i l[i] (List.getElem?_eq_getElem (by omega)) (by omega)]; exact ih (i + 1) (by omega)
  exact key l.length 0 (by omega)
def TotM (o : Option Int) : Prop := ∃ r, o = some r ∧ -1 ≤ r ∧ r ≤ 1048576
theorem Q00 {x : Int} (h : -1 ≤ x) (h' : x ≤ 1048576) : TotM (some x) := ⟨x, rfl, h, h'⟩
theorem Q0P {x : Int} {K : Option Int} (h : 0 ≤ x → TotM K) : TotM (sif (decide (x < 0)) (some (-1)) K) := by
  by_cases hx : x < 0
  · rw [Qj hx]; exact Q00 (by omega) (by omega)
  · rw [Qi hx]; exact h (by omega)
theorem Q0C {a n : Int} {K : Option Int} (h0 : 0 ≤ a) (h1 : a ≤ 1048576) (hn : 0 ≤ n) (hn' : n ≤ 140737488355328) (h : 0 ≤ wi64 (a - n) → wi64 (a - n) ≤ 1048576 → TotM K) : TotM (sif (decide (wi64 (a - n) < 0)) (some (-1)) K) :=
  Q0P fun hx => h hx (by rw [Qq (by omega) (by omega)]; omega)
theorem Q0l {o : Option Int} {f : Int → Option Int} (h : TotM o) (hf : ∀ r, -1 ≤ r → r ≤ 1048576 → TotM (f r)) : TotM (sbind o f) := by obtain ⟨r, rfl, h1, h2⟩ := h; exact hf r h1 h2
theorem Qav {α : Type} (l : List α) (F : Nat → Int → Option Int) (h0 : ∀ s, 0 ≤ s → s ≤ 1048576 → TotM (F l.length s)) (hs : ∀ i x s, l[i]? = some x → i < l.length → 0 ≤ s → s ≤ 1048576 → (∀ s, 0 ≤ s → s ≤ 1048576 → TotM (F (i + 1) s)) → TotM (F i s)) :
    ∀ s, 0 ≤ s → s ≤ 1048576 → TotM (F 0 s) := by
  have key : ∀ n i, l.length = i + n → ∀ s, 0 ≤ s → s ≤ 1048576 → TotM (F i s) := by
    intro n
    induction n with
    | zero => intro i hi; obtain rfl : i = l.length := by omega
              exact h0
    | succ n ih => intro i hi s g0 g1; exact hs i l[i] s (List.getElem?_eq_getElem (by omega)) (by omega) g0 g1 (ih (i + 1) (by omega))
  exact key l.length 0 (by omega)
open Classical in
noncomputable def eqB {α : Type} (a b : α) : Bool := decide (a = b)
theorem Q37 {α : Type} {a b : α} : eqB a b = true ↔ a = b := by unfold eqB; simp
theorem Q5E {α : Type} (a : α) : eqB a a = true := Q37.2 rfl
theorem Qfi {α : Type} {a b : α} (h : a ≠ b) : eqB a b = false := by rw [← Bool.not_eq_true, Q37]; exact h
theorem QV {α β : Type} (a b : α × β) : eqB a b = (eqB a.1 b.1 && eqB a.2 b.2) := by rw [Bool.eq_iff_iff, Bool.and_eq_true, Q37, Q37, Q37, Prod.ext_iff]
theorem Q27 (a b : ByteArray) : seq a b = eqB a b := by rw [Bool.eq_iff_iff, Qbz, Q37]
theorem Q24 {α : Type} [BEq α] [LawfulBEq α] (a b : α) : (a == b) = eqB a b := by rw [Bool.eq_iff_iff, beq_iff_eq, Q37]
theorem Qa7 {α : Type} [BEq α] [LawfulBEq α] (a b : α) : (a != b) = !eqB a b := by rw [← Q24]; rfl
theorem QjN {α : Type} {R : Type} (a b : List α) (hl : a.length = b.length) (F : Nat → Option R) (no : R) (hs : ∀ i x y, a[i]? = some x → b[i]? = some y → i < a.length → F i = sif (!eqB x y) (some no) (F (i + 1))) : F 0 = sif (eqB a b) (F a.length) (some no) := by
  have key : ∀ n i, a.length = i + n → F i = sif (eqB (a.drop i) (b.drop i)) (F a.length) (some no) := by
    intro n
    induction n with
    | zero =>
      intro i hi
      rw [List.drop_of_length_le (by omega), List.drop_of_length_le (by omega), Q5E, Qf]
      congr 1; omega
    | succ n ih =>
      intro i hi
      have h1 : i < a.length := by omega
      have h2 : i < b.length := by omega
      rw [hs i _ _ (List.getElem?_eq_getElem h1) (List.getElem?_eq_getElem h2) h1, List.drop_eq_getElem_cons h1, List.drop_eq_getElem_cons h2, ih (i + 1) (by omega)]
      by_cases h : a[i] = b[i]
      · rw [h, Q5E, Bool.not_true, Qb]
        congr 1
        rw [Bool.eq_iff_iff, Q37, Q37]
        exact ⟨fun e => by rw [e], fun e => (List.cons.inj e).2⟩
      · rw [Qfi h, Qfi (fun e => h (List.cons.inj e).1)]; rfl
  simpa using key a.length 0 (by omega)
theorem Q4J {α : Type} (a b : List α) (F : Nat → Option Bool) (h0 : F a.length = some true) (hs : ∀ i x y, a[i]? = some x → b[i]? = some y → i < a.length → F i = sif (!eqB x y) (some false) (F (i + 1))) : sif ((a.length : Int) != (b.length : Int)) (some false) (F 0) = some (eqB a b) := by
  by_cases hl : a.length = b.length
  · rw [QjN a b hl F false hs, h0, hl, bne_self_eq_false, Qb, Qu, Bool.and_true]
  · rw [Qe (by rw [bne_iff_ne]; omega), Qfi (fun e => hl (by rw [e]))]
theorem Q4M {α : Type} (l : List α) (p : α → Bool) (F : Int → Option Int) (hend : F (l.length : Int) = some (-1)) (hs : ∀ (i : Nat) x, l[i]? = some x → i < l.length → F i = sif (p x) (some (i : Int)) (F ((i + 1 : Nat) : Int))) :
    ∃ r, F 0 = some r ∧ decide (r ≥ 0) = l.any p := by
  have key : ∀ n (i : Nat), l.length = i + n → ∃ r, F i = some r ∧ decide (r ≥ 0) = (l.drop i).any p := by
    intro n
    induction n with
    | zero => intro i hi; obtain rfl : i = l.length := by omega
              exact ⟨-1, hend, by simp⟩
    | succ n ih =>
      intro i hi
      have hlt : i < l.length := by omega
      rw [hs i l[i] (List.getElem?_eq_getElem hlt) hlt, List.drop_eq_getElem_cons hlt, List.any_cons]
      cases hp : p l[i] with
      | true => exact ⟨i, rfl, by simp⟩
      | false =>
        obtain ⟨r, h1, h2⟩ := ih (i + 1) (by omega)
        exact ⟨r, h1, by rw [h2]; rfl⟩
  simpa using key l.length 0 (by omega)
theorem Q5V {α : Type} {l : List α} {p : α → Bool} {F : Option Int} (h : ∃ r, F = some r ∧ decide (r ≥ 0) = l.any p) : sbind F (fun r => some (decide (r ≥ 0))) = some (l.any p) := by
  obtain ⟨r, rfl, h⟩ := h
  rw [Q0, h]
theorem Q0s {α : Type} {R : Type} (l : List α) (p : α → Bool) (F : Nat → Option R) (no : R) (hs : ∀ i x, l[i]? = some x → i < l.length → F i = sif (p x) (F (i + 1)) (some no)) : F 0 = sif (l.all p) (F l.length) (some no) := by
  have key : ∀ n i, l.length = i + n → F i = sif ((l.drop i).all p) (F l.length) (some no) := by
    intro n
    induction n with
    | zero => intro i hi; obtain rfl : i = l.length := by omega
              simp
    | succ n ih =>
      intro i hi
      have hlt : i < l.length := by omega
      rw [hs i l[i] (List.getElem?_eq_getElem hlt) hlt, List.drop_eq_getElem_cons hlt, List.all_cons, ih (i + 1) (by omega)]
      cases p l[i] <;> rfl
  simpa using key l.length 0 (by omega)
theorem QcW {α : Type} (l : List α) (p q : α → Bool) (h : ∀ x ∈ l, q x = !p x) : l.any q = !l.all p := by
  induction l with
  | nil => rfl
  | cons x l ih =>
    rw [List.any_cons, List.all_cons, ih (fun y hy => h y (by simp [hy])), h x (by simp)]
    cases p x <;> rfl
def inr (n lo hi : Int) : Bool := decide (lo ≤ n) && decide (n ≤ hi)
theorem Q0j {n lo hi : Int} : inr n lo hi = true ↔ lo ≤ n ∧ n ≤ hi := by simp [inr]
theorem Qo0 (n lo hi : Int) : sif (decide (n ≥ lo)) (some (decide (n ≤ hi))) (some false) = some (inr n lo hi) := by rw [Qu]; rfl
end Go.Ve
