/- A verified evaluator for translated Go functions, part 2: what one function answers, over abstract values, and the proof that the call answers so. No condition: every law is proved here. -/
import Derived.Test.YtaijkhkgjedkaaaGreatDoorVeA
namespace Go.Ve
open Go.RowKit Go.Lib
set_option linter.unusedVariables false
set_option linter.unusedSimpArgs false
theorem Qgw {α β : Type} {R : α → β → Prop} : ∀ {a : List α} {b : List β}, a.length = b.length → (∀ (j : Nat) x y, a[j]? = some x → b[j]? = some y → R x y) → All2 R a b
  | [], [], _, _ => .nil
  | x :: a, y :: b, hl, h => .cons (h 0 x y rfl rfl) (Qgw (by simpa using hl) (fun j x y hx hy => h (j + 1) x y (by simpa using hx) (by simpa using hy)))
  | [], _ :: _, hl, _ => by simp at hl
  | _ :: _, [], hl, _ => by simp at hl
theorem Qlr (off : Nat) : ∀ (l : List Value) (k : Nat) (cs : Array Value), off + k + l.length ≤ cs.size →
    ((l.zipIdx k).foldl (fun (cs : Array Value) p => cs.setIfInBounds (off + p.2) p.1) cs).size = cs.size ∧
    ∀ m, ((l.zipIdx k).foldl (fun (cs : Array Value) p => cs.setIfInBounds (off + p.2) p.1) cs)[m]? = if off + k ≤ m ∧ m < off + k + l.length then l[m - (off + k)]? else cs[m]?
  | [], k, cs, _ => ⟨rfl, fun m => by rw [if_neg (by simp only [List.length_nil]; omega)]; rfl⟩
  | v :: l, k, cs, h => by
    simp only [List.length_cons] at h
    obtain ⟨ih1, ih2⟩ := Qlr off l (k + 1) (cs.setIfInBounds (off + k) v) (by rw [Array.size_setIfInBounds]; omega)
    rw [List.zipIdx_cons, List.foldl_cons]
    refine ⟨by rw [ih1, Array.size_setIfInBounds], fun m => ?_⟩
    rw [ih2]
    by_cases h1 : off + (k + 1) ≤ m ∧ m < off + (k + 1) + l.length
    · rw [if_pos h1, if_pos (by simp only [List.length_cons]; omega), show m - (off + k) = (m - (off + (k + 1))) + 1 by omega, List.getElem?_cons_succ]
    · rw [if_neg h1, Array.getElem?_setIfInBounds]
      by_cases h2 : off + k = m
      · subst h2
        rw [if_pos rfl, if_pos (by omega), if_pos (by simp only [List.length_cons]; omega)]
        simp
      · rw [if_neg h2, if_neg (by simp only [List.length_cons]; omega)]
theorem Qfq (off : Nat) (v cs : Array Value) (h : off + v.size ≤ cs.size) :
    (v.zipIdx.foldl (fun (cs : Array Value) p => cs.setIfInBounds (off + p.2) p.1) cs).size = cs.size ∧
    ∀ m, (v.zipIdx.foldl (fun (cs : Array Value) p => cs.setIfInBounds (off + p.2) p.1) cs)[m]? = if off ≤ m ∧ m < off + v.size then v[m - off]? else cs[m]? := by
  have := Qlr off v.toList 0 cs (by simpa using h)
  rw [← Array.foldl_toList]
  simpa using this
section
variable {P : Program} {E : Env} {R : Type} {φ : Nat → Loc} {Fz : Nat → Prop} {st : St E.S.K} {w : World}
theorem Qbm {D : Nat → Prop} {x : FV E.S.K} {v : Value} (h : FRep E.S D φ Fz w x v) (hf : full x.cells = true) : All2 (CRep E.S D φ Fz w) x.cells v.cells.toList :=
  h.cells (fun c hc hu => by subst hc hu; simp [FV.cells, full] at hf)
theorem QcD {a : Act} (hI : Inv E.S φ Fz st a.tmps w) : ∀ {ps : List (Nat × Operand)} {xs : List (Nat × FV E.S.K)}, Qfl st ps = some xs → All2 (fun x v => x.1 = v.1 ∧ FRep E.S (fun i => i < st.nx) φ Fz w x.2 v.2) xs (ps.map fun p => (p.1, a.eval p.2))
  | [], xs, h => by cases h; exact .nil
  | (i, o) :: ps, xs, h => by
    simp only [Qfl] at h
    split at h
    · next h1 h2 => cases h; exact .cons ⟨rfl, Q2A hI h1⟩ (QcD hI h2)
    · cases h
theorem Qkl {D : Nat → Prop} : ∀ {cs : List (Cell E.S.K)} {l : List ByteArray} {vs : List Value}, strsOf cs = some l → All2 (CRep E.S D φ Fz w) cs vs → vs.length = l.length ∧ ∀ (j : Nat) (s : ByteArray), l[j]? = some s → vs[j]? = some (.string s)
  | [], l, vs, h, hr => by cases h; cases hr; exact ⟨rfl, fun j s h => by simp at h⟩
  | c :: cs, l, vs, h, hr => by
    cases hr with
    | @cons _ v _ vs hv hr =>
      cases c with
      | str s =>
        simp only [strsOf, Option.map_eq_some_iff] at h
        obtain ⟨l', h1, rfl⟩ := h
        obtain ⟨g1, g2⟩ := Qkl h1 hr
        refine ⟨by simp [g1], fun j x hx => ?_⟩
        cases j with
        | zero =>
          simp only [List.getElem?_cons_zero, Option.some.injEq] at hx
          subst hx
          have hv : TRep E.S Fz w (.str s) v := hv
          cases hv
          rfl
        | succ j => simpa using g2 j x (by simpa using hx)
      | _ => simp [strsOf] at h
theorem QlJ {fs : List (Nat × Nat × Nat)} {place : Nat → Option (Nat × Nat)} (hp : ∀ (j off ft sz : Nat), fs[j]? = some (off, ft, sz) → place j = some (off, sz)) {D : Nat → Prop} : ∀ {ps : List (Nat × FV E.S.K)} {vs : List (Nat × Value)}, All2 (fun x v => x.1 = v.1 ∧ FRep E.S D φ Fz w x.2 v.2) ps vs →
    ∀ {cs out : List (Cell E.S.K)} {arr : Array Value}, All2 (CRep E.S D φ Fz w) cs arr.toList → Qek fs cs ps = some out → ∃ res, Instr.fill place arr vs = some res ∧ All2 (CRep E.S D φ Fz w) out res.toList := by
  intro ps vs h
  induction h with
  | nil => intro cs out arr hc hf; cases hf; exact ⟨arr, rfl, hc⟩
  | @cons x v l l' hxv _ ih =>
    intro cs out arr hc hf
    obtain ⟨i, x⟩ := x
    obtain ⟨i', v⟩ := v
    obtain ⟨he, hr⟩ := hxv
    dsimp only at he hr
    subst he
    simp only [Qek] at hf
    split at hf
    · next off ft sz hfs =>
      cases hck : (Nat.beq x.cells.length sz && Nat.ble (off + sz) cs.length && full x.cells) with
      | false => rw [hck] at hf; cases hf
      | true =>
        rw [hck] at hf
        simp only [Bool.and_eq_true] at hck
        have e1 := Q03 hck.1.1
        have e2 := Nat.le_of_ble_eq_true hck.1.2
        have hxs := Qbm hr hck.2
        have hl1 := hxs.len
        have hl2 := hc.len
        have q1 : v.cells.toList.length = v.cells.size := Array.length_toList
        have q2 : arr.toList.length = arr.size := Array.length_toList
        obtain ⟨hs, hg⟩ := Qfq off v.cells arr (by omega)
        have hnew : All2 (CRep E.S D φ Fz w) (splice cs x.cells off) (v.cells.zipIdx.foldl (fun (cs : Array Value) p => cs.setIfInBounds (off + p.2) p.1) arr).toList := by
          have q3 := (Array.length_toList (xs := v.cells.zipIdx.foldl (fun (cs : Array Value) p => cs.setIfInBounds (off + p.2) p.1) arr))
          refine Qgw (by rw [Q4R (by omega), q3, hs]; omega) (fun j c u hj hu => ?_)
          rw [Qf4 (by omega)] at hj
          rw [Array.getElem?_toList, hg] at hu
          by_cases hin : off ≤ j ∧ j < off + v.cells.size
          · rw [if_pos hin] at hu
            rw [if_pos (by omega)] at hj
            obtain ⟨u', hu', hr'⟩ := hxs.get hj
            rw [Array.getElem?_toList, hu] at hu'
            cases hu'; exact hr'
          · rw [if_neg hin] at hu
            rw [if_neg (by omega)] at hj
            obtain ⟨u', hu', hr'⟩ := hc.get hj
            rw [Array.getElem?_toList, hu] at hu'
            cases hu'; exact hr'
        obtain ⟨res, h1, h2⟩ := ih hnew hf
        refine ⟨res, ?_, h2⟩
        simp only [Instr.fill, hp i off ft sz hfs]
        rw [if_neg (by simp; omega)]
        exact h1
    · cases hf
theorem QpR {fields : List Field} {fs : List (Nat × Nat × Nat)} (hl : fields.length = fs.length) (h : ∀ (j off ft sz : Nat), fs[j]? = some (off, ft, sz) → ∃ f i, fields[j]? = some f ∧ f.offset = off ∧ f.type = ft ∧ P.info? ft = some i ∧ i.size = sz) :
    ∃ places, fields.mapM (fun f => (P.info? f.type).map fun i => (f.offset, i.size)) = some places ∧ ∀ (j off ft sz : Nat), fs[j]? = some (off, ft, sz) → places[j]? = some (off, sz) := by
  induction fields generalizing fs with
  | nil =>
    have : fs = [] := List.eq_nil_of_length_eq_zero (by simpa using hl.symm)
    subst this
    exact ⟨[], rfl, fun j off ft sz h => by simp at h⟩
  | cons f fields ih =>
    cases fs with
    | nil => simp at hl
    | cons q fs =>
      obtain ⟨off, ft, sz⟩ := q
      obtain ⟨places, h1, h2⟩ := ih (fs := fs) (by simpa using hl) (fun j off ft sz hj => by have := h (j + 1) off ft sz (by simpa using hj); simpa using this)
      obtain ⟨f', i, g1, g2, g3, g4, g5⟩ := h 0 off ft sz rfl
      simp only [List.getElem?_cons_zero, Option.some.injEq] at g1
      subst g1
      refine ⟨(off, sz) :: places, ?_, fun j off' ft' sz' hj => ?_⟩
      · rw [List.mapM_cons, h1, g3, g4]
        simp [g2, g5]
      · cases j with
        | zero => simp at hj; obtain ⟨rfl, rfl, rfl⟩ := hj; rfl
        | succ j => simpa using h2 j off' ft' sz' (by simpa using hj)
theorem Qqo (hE : Q0r P E) {t : TypeId} {td : TD} (ht : E.tt t = some td) {fs : List (Nat × Nat × Nat)} (hk : td.kind = .struct fs) {D : Nat → Prop} {z : List (Cell E.S.K)} (hz : ofValues td.zero = some z) {ps : List (Nat × FV E.S.K)} {vs : List (Nat × Value)}
    (hps : All2 (fun x v => x.1 = v.1 ∧ FRep E.S D φ Fz w x.2 v.2) ps vs) {cs : List (Cell E.S.K)} (hf : Qek fs z ps = some cs) : ∃ res : Array Value, (Instr.build t vs.toArray).run P w = .ok (.agg res) w ∧ All2 (CRep E.S D φ Fz w) cs res.toList := by
  obtain ⟨i, d, zv, h1, h2, _, _, _, h6, h7, _, h9⟩ := (hE.tt t td ht).ex
  rw [hk] at h9
  obtain ⟨fields, rfl, hsz, hfld⟩ := h9
  obtain ⟨places, hp1, hp2⟩ := QpR (P := P) (fields := fields.toList) (fs := fs) (by simpa using hsz) (fun j off ft sz hj => by simpa using hfld j off ft sz hj)
  have hz' : All2 (CRep E.S D φ Fz w) z zv.cells.toList := by rw [h7]; exact Q3Q hz
  obtain ⟨res, hr1, hr2⟩ := QlJ (place := (places.toArray[·]?)) (fun j off ft sz hj => by simpa using hp2 j off ft sz hj) hps hz' hf
  refine ⟨res, run_build w t vs.toArray res ?_, hr2⟩
  simp only [Program.built, h1, h2, h6, hp1]
  exact hr1
theorem Qp8 (hE : Q0r P E) {t : TypeId} {td : TD} (ht : E.tt t = some td) {n e : Nat} (hk : td.kind = .array n e) {D : Nat → Prop} {z : List (Cell E.S.K)} (hz : ofValues td.zero = some z) {ps : List (Nat × FV E.S.K)} {vs : List (Nat × Value)}
    (hps : All2 (fun x v => x.1 = v.1 ∧ FRep E.S D φ Fz w x.2 v.2) ps vs) {cs : List (Cell E.S.K)} (hf : Qek (QoM n e) z ps = some cs) : ∃ res : Array Value, (Instr.build t vs.toArray).run P w = .ok (.agg res) w ∧ All2 (CRep E.S D φ Fz w) cs res.toList := by
  obtain ⟨i, d, zv, h1, h2, _, _, _, h6, h7, _, h9⟩ := (hE.tt t td ht).ex
  rw [hk] at h9
  obtain ⟨rfl, ie, hie, hs1⟩ := h9
  have hz' : All2 (CRep E.S D φ Fz w) z zv.cells.toList := by rw [h7]; exact Q3Q hz
  obtain ⟨res, hr1, hr2⟩ := QlJ (place := fun i => some (i * ie.size, ie.size)) (fun j off ft sz hj => by
    unfold QoM at hj
    rw [List.getElem?_map, Option.map_eq_some_iff] at hj
    obtain ⟨a, ha, hb⟩ := hj
    have hlt := (List.getElem?_eq_some_iff.1 ha).1
    rw [List.length_range] at hlt
    rw [List.getElem?_range hlt, Option.some.injEq] at ha
    subst ha
    cases hb
    rw [hs1, Nat.mul_one]) hps hz' hf
  refine ⟨res, run_build w t vs.toArray res ?_, hr2⟩
  simp only [Program.built, h1, h2, h6, hie]
  exact hr1
theorem Qko {n sz : Nat} : ∀ {ps : List (Nat × Value)} {arr : Array Value}, arr.size = n * sz → (∀ p ∈ ps, p.1 < n ∧ p.2.cells.size = sz) → (ps.map (·.1)).Nodup →
    ∃ out, Instr.fill (fun i => some (i * sz, sz)) arr ps = some out ∧ out.size = arr.size ∧ ∀ i j, i < n → j < sz → out[i * sz + j]? = match get ps i with | some v => v.cells[j]? | none => arr[i * sz + j]?
  | [], arr, _, _, _ => ⟨arr, rfl, rfl, fun i j _ _ => rfl⟩
  | (i0, v) :: ps, arr, hs, h, hn => by
    obtain ⟨h1, h2⟩ := h (i0, v) (by simp)
    dsimp only at h1 h2
    have hmul : (i0 + 1) * sz ≤ n * sz := Nat.mul_le_mul_right _ h1
    rw [Nat.add_mul, Nat.one_mul] at hmul
    obtain ⟨hf1, hf2⟩ := Qfq (i0 * sz) v.cells arr (by omega)
    simp only [List.map_cons, List.nodup_cons] at hn
    obtain ⟨out, g1, g2, g3⟩ := Qko (ps := ps) (arr := v.cells.zipIdx.foldl (fun (cs : Array Value) p => cs.setIfInBounds (i0 * sz + p.2) p.1) arr) (by rw [hf1]; exact hs) (fun p hp => h p (List.mem_cons_of_mem _ hp)) hn.2
    refine ⟨out, ?_, by rw [g2, hf1], fun i j hi hj => ?_⟩
    · simp only [Instr.fill]
      rw [if_neg (by simp; omega)]
      exact g1
    · rw [g3 i j hi hj, Qw]
      by_cases he : i = i0
      · subst he
        have hno : get ps i = none := by
          cases hg : get ps i with
          | none => rfl
          | some v' =>
            exfalso
            apply hn.1
            clear g3 g1 hn h hf2 hf1 hmul
            induction ps with
            | nil => simp [get] at hg
            | cons q ps ih =>
              obtain ⟨a, b⟩ := q
              rw [Qw] at hg
              by_cases hq : i = a
              · simp [hq]
              · rw [if_neg hq] at hg; simp; right; simpa using ih hg
        rw [hno, if_pos rfl]
        dsimp only
        rw [hf2, if_pos (by omega), show i * sz + j - i * sz = j by omega]
      · rw [if_neg he]
        cases hg : get ps i with
        | some v' => rfl
        | none =>
          dsimp only
          rw [hf2, if_neg ?_]
          rintro ⟨q1, q2⟩
          rcases Nat.lt_or_gt_of_ne he with hlt | hlt
          · have : (i + 1) * sz ≤ i0 * sz := Nat.mul_le_mul_right _ hlt
            rw [Nat.add_mul, Nat.one_mul] at this
            omega
          · have : (i0 + 1) * sz ≤ i * sz := Nat.mul_le_mul_right _ hlt
            rw [Nat.add_mul, Nat.one_mul] at this
            omega
theorem Qp1 {D : Nat → Prop} {ps : List (Nat × FV E.S.K)} {vs : List (Nat × Value)} (h : All2 (fun x v => x.1 = v.1 ∧ FRep E.S D φ Fz w x.2 v.2) ps vs) (i : Nat) : (get ps i = none ∧ get vs i = none) ∨ ∃ x v, get ps i = some x ∧ get vs i = some v ∧ FRep E.S D φ Fz w x v ∧ (∃ p ∈ ps, p.2 = x) := by
  induction h with
  | nil => exact .inl ⟨rfl, rfl⟩
  | @cons x v l l' hxv _ ih =>
    obtain ⟨a, x⟩ := x
    obtain ⟨a', v⟩ := v
    obtain ⟨he, hr⟩ := hxv
    dsimp only at he hr
    subst he
    rw [Qw, Qw]
    by_cases hi : i = a
    · rw [if_pos hi, if_pos hi]; exact .inr ⟨x, v, rfl, rfl, hr, (a, x), by simp, rfl⟩
    · rw [if_neg hi, if_neg hi]
      rcases ih with h | ⟨x', v', h1, h2, h3, p, hp, h4⟩
      · exact .inl h
      · exact .inr ⟨x', v', h1, h2, h3, p, List.mem_cons_of_mem _ hp, h4⟩
theorem Qk3 (hR : Rel E.S (fun i => i < st.nx) φ Fz st.heap w) {e : Nat} {z : List (Cell E.S.K)} {ps : List (Nat × FV E.S.K)} {row : Nat → List Value}
    (hrow : ∀ i, All2 (CRep E.S (fun i => i < st.nx) φ Fz w) (match get ps i with | some x => x.cells | none => z) (row i)) : ∀ (n i : Nat) {l : List (E.S.K e)} {fr : List Nat}, rowsOf E st e z ps n i = some (l, fr) →
      l.length = n ∧ ∀ (m : Nat) (x : E.S.K e), l[m]? = some x → All2 (TRep E.S (FzA φ Fz st.heap fr) w) (E.S.enc e x) (row (i + m))
  | 0, i, l, fr, h => by cases h; exact ⟨rfl, fun m x hx => by simp at hx⟩
  | n + 1, i, l, fr, h => by
    simp only [rowsOf] at h
    split at h
    · next x fr1 xs fr2 h1 h2 =>
      cases h
      obtain ⟨ih1, ih2⟩ := Qk3 hR hrow n (i + 1) h2
      refine ⟨by simp [ih1], fun m y hy => ?_⟩
      cases m with
      | zero =>
        simp at hy; subst hy
        exact Q2B (fun _ _ h => TRep.fz (FzA.mono fun _ h => List.mem_append_left _ h) h) (QbO hR h1 (hrow i))
      | succ m =>
        have := ih2 m y (by simpa using hy)
        rw [show i + 1 + m = i + (m + 1) by omega] at this
        exact Q2B (fun _ _ h => TRep.fz (FzA.mono fun _ h => List.mem_append_right _ h) h) this
    · cases h
theorem Qh8 {l : List Nat} (h : Q15 l = true) : l.Nodup := by
  induction l with
  | nil => exact List.nodup_nil
  | cons a l ih => obtain ⟨h1, h2⟩ := Q7r h; exact List.nodup_cons.2 ⟨h1, ih h2⟩
theorem QeT {Fz' : Nat → Prop} {e : Nat} (hsz : 0 < E.S.sz e) {l : List (E.S.K e)} {cur : Array Value} (row : Nat → List Value) (h1 : ∀ (m : Nat) (x : E.S.K e), l[m]? = some x → All2 (TRep E.S Fz' w) (E.S.enc e x) (row m)) (h2 : ∀ i j, i < l.length → j < E.S.sz e → cur[i * E.S.sz e + j]? = (row i)[j]?) :
    ∃ vs, Vals E.S Fz' w e l vs ∧ ∀ (m : Nat) (v : Value), vs[m]? = some v → cur[m]? = some v :=
  QbA hsz l (fun m v => cur[m]? = some v) (fun i x j c hx hc => by
    obtain ⟨u, hu, ht⟩ := (h1 i x hx).get hc
    have hi := (List.getElem?_eq_some_iff.1 hx).1
    have hj := (List.getElem?_eq_some_iff.1 hc).1
    rw [E.S.enc_length] at hj
    exact ⟨u, by rw [h2 i j hi hj]; exact hu, ht⟩)
theorem QkU (hE : Q0r P E) (hR : Rel E.S (fun i => i < st.nx) φ Fz st.heap w) {t : TypeId} {e : Nat} (ht : sliceOf E t = some e) {ed : TD} (hed : E.tt e = some ed) {z : List (Cell E.S.K)} (hz : ofValues ed.zero = some z) {ps : List (Nat × FV E.S.K)} {vs : List (Nat × Value)}
    (hps : All2 (fun x v => x.1 = v.1 ∧ FRep E.S (fun i => i < st.nx) φ Fz w x.2 v.2) ps vs) {n : Nat} (hn : n * E.S.sz e ≤ 16777216) (hlt : ∀ p ∈ vs, p.1 < n) (hnd : Q15 (vs.map (·.1)) = true) (hfull : ∀ p ∈ ps, full p.2.cells = true) {l : List (E.S.K e)} {fr : List Nat}
    (hrows : rowsOf E st e z ps n 0 = some (l, fr)) {k : Kn E R} {r : R} (h : Q3p E { st with heap := freeze fr st.heap } e l k = some r) {next : Value → World → Prop} (hG : Goal E.S φ Fz st w k r next) :
    ∃ v w', (Instr.buildSlice t n vs.toArray).run P w = .ok v w' ∧ next v w' := by
  obtain ⟨hund, i, zv, ed', hed', hi, hsize, _, _, _, hzi, hzc, hzl, hsz⟩ := hE.sliceOf ht
  rw [hed] at hed'; cases hed'
  let row : Nat → List Value := fun i => match get vs i with | some v => v.cells.toList | none => zv.cells.toList
  have hrow : ∀ i, All2 (CRep E.S (fun i => i < st.nx) φ Fz w) (match get ps i with | some x => x.cells | none => z) (row i) := fun i => by
    rcases Qp1 hps i with ⟨h1, h2⟩ | ⟨x, v, h1, h2, h3, p, hp, h4⟩
    · simp only [row, h1, h2]; rw [hzc]; exact Q3Q hz
    · simp only [row, h1, h2]; exact Qbm h3 (by rw [← h4]; exact hfull p hp)
  obtain ⟨hll, hlr⟩ := Qk3 hR hrow n 0 hrows
  have hzs : zv.cells.size = E.S.sz e := by rw [← hzl, ← hzc, Array.length_toList]
  have hpsz : ∀ p ∈ vs, p.2.cells.size = E.S.sz e := by
    intro p hp
    have hget : ∃ v, get vs p.1 = some v := by
      clear hnd hlt hps hrow hlr
      induction vs with
      | nil => cases hp
      | cons q vs ih =>
        obtain ⟨a, b⟩ := q
        rw [Qw]
        rcases List.mem_cons.1 hp with rfl | hp
        · exact ⟨_, if_pos rfl⟩
        · by_cases he : p.1 = a
          · exact ⟨_, if_pos he⟩
          · rw [if_neg he]; exact ih hp
    have hval : get vs p.1 = some p.2 := by
      have hnd' := Qh8 hnd
      clear hlt hps hrow hlr hget hnd
      induction vs with
      | nil => cases hp
      | cons q vs ih =>
        obtain ⟨a, b⟩ := q
        simp only [List.map_cons, List.nodup_cons] at hnd'
        rw [Qw]
        rcases List.mem_cons.1 hp with rfl | hp
        · exact if_pos rfl
        · rw [if_neg (fun he => hnd'.1 (by rw [← he]; exact List.mem_map_of_mem hp))]
          exact ih hp hnd'.2
    have hpn := hlt p hp
    have h1 := hlr p.1 (l[p.1]'(by omega)) (List.getElem?_eq_getElem (by omega))
    have h2 := h1.len
    rw [E.S.enc_length, Nat.zero_add] at h2
    simp only [row, hval, Array.length_toList] at h2
    exact h2.symm
  have hA := After.freeze hR fr
  by_cases hn0 : n = 0
  · subst hn0
    have hvs : vs = [] := by
      cases vs with
      | nil => rfl
      | cons p vs => have := hlt p (by simp); omega
    subst hvs
    have hl0 : l = [] := List.eq_nil_of_length_eq_zero hll
    subst hl0
    refine ⟨.slice (some ⟨w.heap.size, 0, none⟩) 0 0, w.alloc (.cells #[] e), ?_, ?_⟩
    · have h0 : (Array.map (fun x => (default : Value)) (Array.range 0)) = #[] := by simp
      simp [Instr.buildSlice, run_underlying hund, sizeOf, typeInfo, hi, Instr.fill, newRow, h0]
    · have := QaE (w1 := w) (st := { st with heap := freeze fr st.heap }) hA.rel (H := freeze fr st.heap) (fun _ _ h => h) h (next := next) (fun v st' φ' Fz' x w' hk hA' hs => hG v st' φ' Fz' x w' hk (hA.trans hA') hs)
        (Chg.alloc _ w (.cells #[] e)) (b := w.heap.size) (Nat.le_refl _) (cap := 0) (heap_alloc_new w (.cells #[] e)) (Nat.le_refl _) (by simp) (fun k hk => by simp at hk) (vs := []) All2.nil (fun m v hm => by simp at hm)
      exact this
  · have hpos : n * E.S.sz e ≠ 0 := Nat.mul_ne_zero hn0 (by omega)
    obtain ⟨out, g1, g2, g3⟩ := Qko (n := n) (sz := E.S.sz e) (ps := vs) (arr := (Array.range (n * E.S.sz e)).map (zv.cells[· % zv.cells.size]!)) (by simp) (fun p hp => ⟨hlt p hp, hpsz p hp⟩) (Qh8 hnd)
    have hout : ∀ i j, i < l.length → j < E.S.sz e → out[i * E.S.sz e + j]? = (row (0 + i))[j]? := fun i j hil hj => by
      rw [g3 i j (by omega) hj, Nat.zero_add]
      cases hg : get vs i with
      | some v => simp [row, hg]
      | none =>
        have hm : i * E.S.sz e + j < n * E.S.sz e := by
          have : (i + 1) * E.S.sz e ≤ n * E.S.sz e := Nat.mul_le_mul_right _ (by omega)
          rw [Nat.add_mul, Nat.one_mul] at this
          omega
        have hmod : (i * E.S.sz e + j) % zv.cells.size = j := by
          rw [hzs, Nat.add_comm, Nat.mul_comm, Nat.add_mul_mod_self_left, Nat.mod_eq_of_lt hj]
        have hr : (Array.range (n * E.S.sz e))[i * E.S.sz e + j]? = some (i * E.S.sz e + j) := by rw [Array.getElem?_range, if_pos hm]
        simp only [row, hg, Array.getElem?_map, hr, Option.map_some, hmod, Array.getElem?_toList]
        rw [getElem!_pos zv.cells j (by omega), Array.getElem?_eq_getElem (by omega)]
    obtain ⟨vv, hv1, hv2⟩ := QeT (w := w) hsz (fun m => row (0 + m)) hlr hout
    refine ⟨.slice (some ⟨w.heap.size, 0, none⟩) n n, w.alloc (.cells out e), ?_, ?_⟩
    · have hgt : ¬ (16777216 < n * E.S.sz e) := by omega
      simp [Instr.buildSlice, run_underlying hund, sizeOf, typeInfo, zeroValue, hi, hsize, hzi, hgt, hpos, g1, newRow]
    · have := QaE (w1 := w) (st := { st with heap := freeze fr st.heap }) hA.rel (H := freeze fr st.heap) (fun _ _ h => h) h (next := next) (fun v st' φ' Fz' x w' hk hA' hs => hG v st' φ' Fz' x w' hk (hA.trans hA') hs)
        (Chg.alloc _ w (.cells out e)) (b := w.heap.size) (Nat.le_refl _) (cap := n) (heap_alloc_new w (.cells out e)) (by omega) (by rw [g2]; simp) (fun k hk => by simp) hv1 hv2
      rw [hll] at this
      exact this
theorem QlL (hE : Q0r P E) (hR : Rel E.S (fun i => i < st.nx) φ Fz st.heap w) {t : TypeId} {e : Nat} (ht : sliceOf E t = some e) {ed : TD} (hed : E.tt e = some ed) {z : List (Cell E.S.K)} (hz : ofValues ed.zero = some z) {x : E.S.K e} (hx : Qaq E st e z = some (x, []))
    {n m : Int} {kn km : IntKind} (hb : (le3 0 n m && room m.toNat ed.bytes) = true) {k : Kn E R} {r : R} (h : Q3p E st e (List.replicate n.toNat x) k = some r) {next : Value → World → Prop} (hG : Goal E.S φ Fz st w k r next) :
    ∃ v w', (Instr.makeSlice t (.int kn n) (.int km m)).run P w = .ok v w' ∧ next v w' := by
  obtain ⟨hund, i, zv, ed', hed', hi, hsize, _, hbytes, hb0, hzi, hzc, hzl, hsz⟩ := hE.sliceOf ht
  rw [hed] at hed'; cases hed'
  simp only [Bool.and_eq_true, le3, decide_eq_true_eq] at hb
  obtain ⟨⟨h0, hnm⟩, hroom⟩ := hb
  have hroom := Nat.le_of_ble_eq_true hroom
  rw [← hbytes] at hroom
  have hm1 : m.toNat ≤ m.toNat * i.bytes := Nat.le_mul_of_pos_right _ hb0
  have hby : (i.bytes : Int) * m ≤ 281474976710656 := by
    have : (m.toNat : Int) = m := by omega
    rw [← this, Int.mul_comm, ← Int.natCast_mul]; omega
  have hrun := run_make w t e i zv hund hi hzi kn km n m h0 hnm hby (by omega)
  refine ⟨_, _, hrun, ?_⟩
  have hrow := QbO hR hx (vs := zv.cells.toList) (by rw [hzc]; exact Q3Q hz)
  have hzs : zv.cells.size = E.S.sz e := by rw [← hzl, ← hzc, Array.length_toList]
  obtain ⟨vv, hv1, hv2⟩ := QeT (w := w) (Fz' := FzA φ Fz st.heap []) (l := List.replicate n.toNat x) hsz (cur := madeCells zv.cells (m.toNat * i.size)) (fun _ => zv.cells.toList) (fun q y hy => by
      rw [List.getElem?_replicate] at hy
      split at hy
      · cases hy; exact hrow
      · cases hy) (fun a b ha hbz => by
      rw [List.length_replicate] at ha
      have hlt : a * E.S.sz e + b < m.toNat * i.size := by
        rw [hsize]
        have : (a + 1) * E.S.sz e ≤ m.toNat * E.S.sz e := Nat.mul_le_mul_right _ (by omega)
        rw [Nat.add_mul, Nat.one_mul] at this
        omega
      have hmod : (a * E.S.sz e + b) % zv.cells.size = b := by rw [hzs, Nat.add_comm, Nat.mul_comm, Nat.add_mul_mod_self_left, Nat.mod_eq_of_lt hbz]
      have hr : (Array.range (m.toNat * i.size))[a * E.S.sz e + b]? = some (a * E.S.sz e + b) := by rw [Array.getElem?_range, if_pos hlt]
      simp only [madeCells, Array.getElem?_map, hr, Option.map_some, hmod, Array.getElem?_toList]
      rw [getElem!_pos zv.cells b (by omega), Array.getElem?_eq_getElem (by omega)])
  have hv1' : Vals E.S Fz w e (List.replicate n.toNat x) vv := Q2B (fun _ _ h => TRep.fz (fun k hk => hk.resolve_right (fun ⟨_, h, _⟩ => by cases h)) h) hv1
  have := QaE (w1 := w) (H := st.heap) hR (fun _ _ h => h) h hG (Chg.alloc _ w (.cells (madeCells zv.cells (m.toNat * i.size)) e)) (b := w.heap.size) (Nat.le_refl _) (cap := m.toNat) (heap_alloc_new w _) (by rw [List.length_replicate]; omega)
    (by rw [size_madeCells, hsize]; exact Nat.le_refl _) (fun k hk => by simp) hv1' hv2
  rw [List.length_replicate] at this
  exact this
theorem Qiu : ∀ (ns : List Int) (s : ByteArray), ns.foldl (fun r n => r.push (UInt8.ofNat n.toNat)) s = ⟨s.data ++ (ns.map fun n => UInt8.ofNat n.toNat).toArray⟩
  | [], s => by simp
  | n :: ns, s => by
    rw [List.foldl_cons, Qiu ns]
    congr 1
    apply Array.ext'
    simp [ByteArray.push]
theorem Qs5 (hE : Q0r P E) {l : List (E.S.K E.S.u8)} {vs : List Value} (h : Vals E.S Fz w E.S.u8 l vs) (hvs : ∀ v ∈ vs, ∃ n, v = .int .u8 n) : ∃ ns : List Int, vs = ns.map (Value.int .u8) ∧ E.S.toB l = ns.foldl (fun r n => r.push (UInt8.ofNat n.toNat)) ByteArray.empty := by
  have hns : ∃ ns : List Int, vs = ns.map (Value.int .u8) := by
    clear h
    induction vs with
    | nil => exact ⟨[], rfl⟩
    | cons v vs ih =>
      obtain ⟨n, rfl⟩ := hvs v (by simp)
      obtain ⟨ns, rfl⟩ := ih (fun v hv => hvs v (List.mem_cons_of_mem _ hv))
      exact ⟨n :: ns, rfl⟩
  obtain ⟨ns, rfl⟩ := hns
  refine ⟨ns, rfl, ?_⟩
  have hlen := h.len
  rw [hE.u8sz, Nat.mul_one, List.length_map] at hlen
  rw [hE.toB l ns (fun i x hx => ?_) hlen, Qiu]
  · congr 1
    apply Array.ext'
    simp
  · have hil := (List.getElem?_eq_some_iff.1 hx).1
    have hsz := E.S.enc_length E.S.u8 x
    rw [hE.u8sz] at hsz
    obtain ⟨c, hc⟩ : ∃ c, E.S.enc E.S.u8 x = [c] := by
      match hq : E.S.enc E.S.u8 x, hsz with
      | [c], _ => exact ⟨c, rfl⟩
    obtain ⟨u, hu, ht⟩ := h.get (j := 0) hx (by rw [hc]; rfl)
    rw [hE.u8sz, Nat.mul_one, Nat.add_zero, List.getElem?_map] at hu
    cases hn : ns[i]? with
    | none => rw [hn] at hu; cases hu
    | some n =>
      rw [hn] at hu
      simp only [Option.map_some, Option.some.injEq] at hu
      subst hu
      refine ⟨n, rfl, ?_⟩
      rw [hc]
      cases ht; rfl
theorem Qj7 (w : World) (e : TypeId) (s : ByteArray) : Chg (fun _ _ => False) w (bytesWorld w e s) := by
  have hb : ∀ k, k < w.heap.size → (bytesWorld w e s).heap[k]? = w.heap[k]? := fun k hk => bytesWorld_at_old w e s k hk
  refine ⟨?_, ?_, ?_, by rw [bytesWorld_size]; omega, fun k o hk _ => ⟨World.cell?_of_block (hb k hk), World.frozen?_of_block (hb k hk)⟩, fun k hk _ => hb k hk, fun k hk => Q3c (hb k hk)⟩ <;>
    simp [bytesWorld, World.freeze, World.alloc, World.drew, -World.alloc_eq, -World.drew_eq]
theorem Qn0 (hE : Q0r P E) (hR : Rel E.S (fun i => i < st.nx) φ Fz st.heap w) {s d : TypeId} {sd dd : TD} (hs : E.tt s = some sd) (hd : E.tt d = some dd) {x : Cell E.S.K} {v : Value} (hx : CRep E.S (fun i => i < st.nx) φ Fz w x v) {k : Kn E R} {r : R}
    (h : Q4c E st sd dd x k = some r) {next : Value → World → Prop} (hG : Goal E.S φ Fz st w k r next) : ∃ u w', (convert s d v).run P w = .ok u w' ∧ next u w' := by
  obtain ⟨si, sdd, sz, hs1, hs2, _, _, _, _, _, _, hsk⟩ := (hE.tt s sd hs).ex
  obtain ⟨di, ddd, dz, hd1, hd2, _, _, _, _, _, _, hdk⟩ := (hE.tt d dd hd).ex
  unfold Q4c at h
  split at h
  · next i i' n hk =>
    rw [hk] at hdk
    simp only [Q9n] at hdk
    subst hdk
    rw [Q0v hx]
    exact ⟨_, w, by simp [convert, run_underlying hs2, run_underlying hd2, Conv.intToInt], hG _ _ _ _ _ _ h (After.refl hR) (TRep.int _ _)⟩
  · next str hk =>
    rw [hk] at hdk
    simp only [Q9n] at hdk
    subst hdk
    rw [Q2l hx]
    exact ⟨_, w, by simp [convert, run_underlying hs2, run_underlying hd2], hG _ _ _ _ _ _ h (After.refl hR) (TRep.str _)⟩
  · next e str hk =>
    rw [hk] at hdk
    simp only [Q9n] at hdk
    subst hdk
    cases hb : Nat.beq e E.S.u8 with
    | false => rw [hb] at h; cases h
    | true =>
      rw [hb] at h
      have := Q03 hb
      subst this
      rw [Q2l hx]
      refine ⟨_, _, Go.Lib.run_convert_string_bytes w s d E.S.u8 str hs2 hd2 hE.u8, ?_⟩
      have hsz1 := hE.u8sz
      have hge := grownCap_ge w str.size 0 E.S.u8
      have hcs : (bytesCells w E.S.u8 str).size = grownCap w str.size 0 E.S.u8 := by
        simp only [bytesCells, Array.size_append, Array.size_map, Array.size_replicate]
        show str.size + _ = _
        omega
      obtain ⟨vs, h1, h2⟩ := QbA (Fz := Fz) (w := w) (by omega : 0 < E.S.sz E.S.u8) (E.S.ofB str) (fun m u => ∃ b, str.data[m]? = some b ∧ u = .int .u8 b.toNat) (fun i x j c hx hc => by
        obtain ⟨b, hb, he⟩ := hE.ofB str i x hx
        rw [he] at hc
        cases j with
        | zero =>
          simp only [List.getElem?_cons_zero, Option.some.injEq] at hc
          subst hc
          exact ⟨.int .u8 b.toNat, ⟨b, by rw [hsz1]; simpa using hb, rfl⟩, .int _ _⟩
        | succ j => simp at hc)
      have := QaE (w1 := w) (H := st.heap) hR (fun _ _ h => h) h hG (Qj7 w E.S.u8 str) (b := w.heap.size) (Nat.le_refl _) (cap := grownCap w str.size 0 E.S.u8) (bytesWorld_at_new w E.S.u8 str) (by rw [hE.ofB_len]; exact hge)
        (by rw [hcs, hsz1, Nat.mul_one]; exact Nat.le_refl _) (fun k hk => by rw [hcs]; rw [hsz1, Nat.mul_one] at hk; simp only; omega) h1 (fun m v hm => by
          obtain ⟨b, hb, rfl⟩ := h2 m v hm
          have hlt : m < str.data.size := (Array.getElem?_eq_some_iff.1 hb).1
          rw [bytesCells, Array.getElem?_append_left (by rw [Array.size_map]; exact hlt), Array.getElem?_map, hb]; rfl)
      rw [hE.ofB_len] at this
      exact this
  · next hk hns =>
    rw [hk] at hdk
    simp only [Q9n] at hdk
    subst hdk
    split at h
    · next e hsk' =>
      rw [hsk'] at hsk
      simp only [Q9n] at hsk
      subst hsk
      cases hb : Nat.beq e E.S.u8 with
      | false => rw [hb] at h; cases h
      | true =>
        rw [hb] at h
        have := Q03 hb
        subst this
        dsimp only [chk] at h
        have hconv : ∀ (q : Option Addr) (n c : Nat), (convert s d (.slice q n c)).run P w = (Conv.bytesToString (.slice q n c)).run P w := fun q n c => by
          simp [convert, run_underlying hs2, run_underlying hd2, run_underlying hE.u8]
        split at h
        · have hv : v = .slice none 0 0 := hx
          subst hv
          exact ⟨_, w, by rw [hconv]; simp [Conv.bytesToString], hG _ _ _ _ _ _ h (After.refl hR) (TRep.str _)⟩
        · split at h
          · next l hl =>
            obtain ⟨vs, hsrc⟩ := QgN hE hR (by rw [hE.u8sz]; omega) hl hx
            have hvs : ∀ v ∈ vs, ∃ n, v = .int .u8 n := by
              intro u hu
              obtain ⟨m, hm⟩ := List.mem_iff_getElem?.1 hu
              have hlen := hsrc.vals.len
              rw [hE.u8sz, Nat.mul_one] at hlen
              have hml := (List.getElem?_eq_some_iff.1 hm).1
              have hx0 : l[m]? = some (l[m]'(by omega)) := List.getElem?_eq_getElem (by omega)
              have henc : ∀ y : E.S.K E.S.u8, ∃ n, E.S.enc E.S.u8 y = [.int .u8 n] := fun y => by
                unfold Sig.enc
                have hsh := hE.u8sh
                revert y
                generalize E.S.toT E.S.u8 = f
                revert f
                rw [hsh]
                intro f y
                exact ⟨f y, rfl⟩
              obtain ⟨n, hn⟩ := henc (l[m]'(by omega))
              obtain ⟨u', hu', ht⟩ := hsrc.vals.get (j := 0) hx0 (by rw [hn]; rfl)
              rw [hE.u8sz, Nat.mul_one, Nat.add_zero, hm] at hu'
              cases hu'
              cases ht
              exact ⟨n, rfl⟩
            obtain ⟨ns, hns, htoB⟩ := Qs5 hE hsrc.vals hvs
            have hform : ∃ q n c, v = .slice q n c := by
              unfold elems at hl
              split at hl
              · have hx' : TRep E.S Fz w _ v := hx
                cases hx'; exact ⟨_, _, _, rfl⟩
              · exact ⟨_, _, _, hx.2⟩
              · obtain ⟨_, _, _, _, q, rfl, _⟩ := hx; exact ⟨_, _, _, rfl⟩
              · exact absurd rfl (hns _)
              · cases hl
            obtain ⟨q, n, c, rfl⟩ := hform
            have hl2 := hsrc.len w
            simp [Builtin.lenOf] at hl2
            refine ⟨.string (E.S.toB l), w, ?_, hG _ _ _ _ _ _ h (After.refl hR) (TRep.str _)⟩
            rw [hconv]
            have hf := hsrc.first w l.length rfl (Nat.le_refl _)
            have hlen := hsrc.vals.len
            rw [hE.u8sz, Nat.mul_one] at hlen hf
            rw [List.take_of_length_le (by omega)] at hf
            cases q with
            | none =>
              simp [Builtin.firstCells] at hf
              have : ns = [] := by
                have : vs = [] := by simpa using hf.symm
                rw [this] at hns
                cases ns with | nil => rfl | cons _ _ => cases hns
              rw [htoB, this]
              simp [Conv.bytesToString]
            | some ad =>
              have hf' : (loadCells ad n).run P w = .ok (ns.map (Value.int .u8)).toArray w := by
                rw [← hns, hl2]
                simpa [Builtin.firstCells] using hf
              rw [htoB]
              exact run_bytesToString w ad n c ns hf'
          · cases h
    · cases h
  · cases h
end
end Go.Ve
namespace Go.Ve
open Go.RowKit Go.Lib
set_option linter.unusedVariables false
set_option linter.unusedSimpArgs false
section
variable {P : Program} {E : Env} {R : Type} {φ : Nat → Loc} {Fz : Nat → Prop} {st : St E.S.K} {w : World}
theorem QjQ (hR : Rel E.S (fun i => i < st.nx) φ Fz st.heap w) {id e : Nat} {l0 l' : List (E.S.K e)} (hg : get st.heap id = some (.vec true e l0)) {vs : List Value} (hv : Vals E.S Fz w e l' vs) (hsz : 0 < E.S.sz e) {p : Nat} (hp : p + l'.length ≤ l0.length) (hc0 : (φ id).cap ≠ 0) :
    ∃ w', (storeCells ⟨(φ id).b, (φ id).o + p * E.S.sz e, none⟩ vs).run P w = .ok () w' ∧ After E.S φ Fz st w φ Fz { st with heap := put st.heap id (.vec true e (putAt l0 p l')) } w' := by
  obtain ⟨hl, hs, hcap, hsh, hr⟩ := hR.rep _ _ hg
  obtain ⟨haddr, _, cur, el, fz, hh, hel, hsize, hun, hcells⟩ := hr hc0
  have hun := hun rfl
  have hvl := hv.len
  have hle : (p + l'.length) * E.S.sz e ≤ (φ id).cap * E.S.sz e := Nat.mul_le_mul_right _ (by clear hcells; omega)
  rw [Nat.add_mul] at hle
  have hpre : ∀ j, j < vs.length → (∃ u, w.cell? ⟨(φ id).b, (φ id).o + p * E.S.sz e + j, none⟩ = some u) ∧ w.frozen? ⟨(φ id).b, (φ id).o + p * E.S.sz e + j, none⟩ = false := fun j hj => by
    refine ⟨⟨cur[(φ id).o + p * E.S.sz e + j]'(by clear hcells; omega), by rw [Q3t hh, Array.getElem?_eq_getElem]⟩, ?_⟩
    have := hun ((φ id).o + p * E.S.sz e + j) (by clear hcells; omega) (by clear hcells; omega)
    simp only [World.frozen?, hh]
    simp
    omega
  obtain ⟨w', hrun, hC, hnew, hblk⟩ := Qct (P := P) hv.one hpre
  obtain ⟨nw, hnw, hnws, hnwg⟩ := hblk cur el fz hh
  refine ⟨w', hrun, ?_⟩
  have hOfz : ∀ (k o : Nat), (k = (φ id).b ∧ (φ id).o + p * E.S.sz e ≤ o ∧ o < (φ id).o + p * E.S.sz e + vs.length) → ¬ Fz k := fun k o hk => hR.fz id _ hg rfl k o ⟨hc0, hk.1⟩
  have hputl : (putAt l0 p l').length = l0.length := by unfold putAt; simp; omega
  refine After.put hR hg rfl rfl (hC.mono fun k o _ hk => ⟨hc0, hk.1⟩) (fun k o => Iff.rfl) ⟨by rw [hl, hputl], hs, by rw [hputl]; exact hcap, fun ad had => (by rw [haddr] at had; cases had; unfold World.shape?; rw [hnw]; rfl), fun _ => ⟨haddr, (fun h => by cases h), nw, el, fz, hnw, hel, by rw [hnws]; exact hsize, fun _ => hun, fun i x j c hx hc => ?_⟩⟩
  have hjs : j < E.S.sz e := by have := (List.getElem?_eq_some_iff.1 hc).1; rw [E.S.enc_length] at this; exact this
  rw [hnwg]
  unfold putAt at hx
  rw [← List.append_assoc, Q8Q _ _ _ _ hp] at hx
  by_cases hin : p ≤ i ∧ i < p + l'.length
  · rw [if_pos hin] at hx
    obtain ⟨u, hu, ht⟩ := hv.get hx hc
    refine ⟨u, ?_, ht.keep hC hOfz (fun _ h => h)⟩
    have e1 : i * E.S.sz e = p * E.S.sz e + (i - p) * E.S.sz e := by rw [← Nat.add_mul]; congr 1; omega
    have e2 := (List.getElem?_eq_some_iff.1 hu).1
    rw [if_pos (by rw [e1]; omega), show (φ id).o + (i * E.S.sz e + j) - ((φ id).o + p * E.S.sz e) = (i - p) * E.S.sz e + j by rw [e1]; omega]
    exact hu
  · rw [if_neg hin] at hx
    obtain ⟨u, hu, ht⟩ := hcells i x j c hx hc
    refine ⟨u, ?_, ht.keep hC hOfz (fun _ h => h)⟩
    rw [if_neg ?_]
    · exact hu
    · rintro ⟨h1, h2⟩
      rcases Nat.lt_or_ge i p with hlt | hge
      · have : (i + 1) * E.S.sz e ≤ p * E.S.sz e := Nat.mul_le_mul_right _ hlt
        rw [Nat.add_mul, Nat.one_mul] at this
        omega
      · have : (p + l'.length) * E.S.sz e ≤ i * E.S.sz e := Nat.mul_le_mul_right _ (by omega)
        rw [Nat.add_mul] at this
        omega
theorem QlU {t u ty e : TypeId} {i : TypeInfo} (ht : P.underlying t = some (.slice e)) (hi : P.info? e = some i) {ts : Array TypeId} (hts : ts[0]? = some t) {base : Option Addr} {dLen dCap n : Nat} {x : Value} {vs : List Value} (hlen : (Builtin.lenOf x).run P w = .ok n w)
    (hf : (Builtin.firstCells i.size (Nat.min n dLen) x).run P w = .ok vs.toArray w) {w' : World} (hst : (match base with | some a => (storeCells a vs).run P w | none => .ok () w) = .ok () w') :
    (Builtin.copy_ ts ty #[.slice base dLen dCap, x]).run P w = .ok (.int .i64 (Nat.min n dLen : Nat)) w' := by
  cases base with
  | none =>
    simp only [Result.ok.injEq, true_and] at hst
    subst hst
    simp [Builtin.copy_, hts, run_underlying ht, hlen, sizeOf, typeInfo, hi, hf, goInt]
  | some a => simp [Builtin.copy_, hts, run_underlying ht, hlen, sizeOf, typeInfo, hi, hf, hst, goInt]
theorem QcK {α : Type} (l : List α) (p : Nat) : putAt l p [] = l := by unfold putAt; simp
theorem Qea {α : Type} (t : Nat) (v : α) : ∀ (l : List (Nat × α)), get l t = some v → ∀ t', get (put l t v) t' = get l t' := fun l h t' => by
  rw [get_put]; split
  · next he => rw [he]; exact h.symm
  · rfl
theorem Rel.congr {D : Nat → Prop} {H H' : List (Nat × Blk E.S.K)} (h : ∀ t, get H' t = get H t) (hR : Rel E.S D φ Fz H w) : Rel E.S D φ Fz H' w :=
  ⟨fun id b hg => hR.dom id b (by rw [← h]; exact hg), fun id b hg => hR.rep id b (by rw [← h]; exact hg), fun id id' b b' hg hg' => hR.dis id id' b b' (by rw [← h]; exact hg) (by rw [← h]; exact hg'), fun id b hg => hR.fz id b (by rw [← h]; exact hg), hR.lt, hR.inv⟩
theorem Qqt (hE : Q0r P E) (hR : Rel E.S (fun i => i < st.nx) φ Fz st.heap w) {t ty : TypeId} {ts : Array TypeId} (hts : ts[0]? = some t) {e : Nat} (ht : sliceOf E t = some e) {d x : Cell E.S.K} {dv xv : Value} (hd : CRep E.S (fun i => i < st.nx) φ Fz w d dv) (hx : CRep E.S (fun i => i < st.nx) φ Fz w x xv)
    {k : Kn E R} {r : R} (h : Qbt E st e d x k = some r) {next : Value → World → Prop} (hG : Goal E.S φ Fz st w k r next) : ∃ u w', (Builtin.copy_ ts ty #[dv, xv]).run P w = .ok u w' ∧ next u w' := by
  obtain ⟨hund, i, z, ed, _, hi, hsize, _, _, _, _, _, _, hsz⟩ := hE.sliceOf ht
  have core : ∀ {id p : Nat} {l0 l : List (E.S.K e)} {dLen dCap : Nat} {base : Option Addr}, get st.heap id = some (.vec true e l0) → elems E st e x = some l → p + dLen ≤ l0.length → (0 < dLen → base = some ⟨(φ id).b, (φ id).o + p * E.S.sz e, none⟩) →
      k (.v (.c (.int .i64 (min l.length dLen : Nat)))) { st with heap := put st.heap id (.vec true e (putAt l0 p (l.take dLen))) } = some r → ∃ u w', (Builtin.copy_ ts ty #[.slice base dLen dCap, xv]).run P w = .ok u w' ∧ next u w' := by
    intro id p l0 l dLen dCap base hg hl hp hbase hk
    obtain ⟨vs, hsrc⟩ := QgN hE hR hsz hl hx
    have hB := hR.rep _ _ hg
    have hcap : dLen ≠ 0 → (φ id).cap ≠ 0 := fun h0 => by have := hB.1; have := hB.2.2.1; omega
    have htake : l.take dLen = l.take (min l.length dLen) := by
      rcases Nat.le_total l.length dLen with h | h
      · rw [Nat.min_eq_left h, List.take_of_length_le h, List.take_of_length_le (Nat.le_refl _)]
      · rw [Nat.min_eq_right h]
    have hf := hsrc.first w (min l.length dLen) rfl (Nat.min_le_left _ _)
    have hv := hsrc.vals.take (min l.length dLen)
    rw [← htake] at hv
    by_cases h0 : (l.take dLen) = []
    · rw [h0] at hv hk
      have hvl := hv.len
      have hvs : vs.take (min l.length dLen * E.S.sz e) = [] := List.eq_nil_of_length_eq_zero (by simpa using hvl)
      rw [hvs] at hf
      refine ⟨_, w, QlU (u := t) hund hi hts (hsrc.len w) (by rw [hsize]; exact hf) (by cases base <;> simp [storeCells]), ?_⟩
      refine hG _ _ φ Fz _ _ hk ⟨hR.congr (Qea id (.vec true e (putAt l0 p [])) st.heap (by rw [QcK]; exact hg)), Nat.le_refl _, rfl, fun _ _ => rfl, fun _ h => h, fun _ h => .inl h, fun k o hO => .inl ?_, Chg.refl _ _⟩ (TRep.int _ _)
      obtain ⟨j, b, hj, ho, hc⟩ := hO
      exact ⟨j, b, by rw [← Qea id (.vec true e (putAt l0 p [])) st.heap (by rw [QcK]; exact hg)]; exact hj, ho, hc⟩
    · have hd0 : 0 < dLen := by
        rcases Nat.eq_zero_or_pos dLen with h | h
        · subst h; simp at h0
        · exact h
      obtain ⟨w', hrun, hA⟩ := QjQ (P := P) hR hg hv hsz (p := p) (by rw [List.length_take]; omega) (hcap (by omega))
      refine ⟨_, w', QlU (u := t) hund hi hts (hsrc.len w) (by rw [hsize]; exact hf) (by rw [hbase hd0]; exact hrun), hG _ _ _ _ _ _ hk hA (TRep.int _ _)⟩
  unfold Qbt at h
  split at h
  · next id =>
    split at h
    · next e0 l0 hg =>
      cases hb : Nat.beq e0 e with
      | false => rw [hb] at h; cases h
      | true =>
        rw [hb] at h
        have := Q03 hb
        subst this
        dsimp only [chk] at h
        split at h
        · next l hl =>
          obtain ⟨_, rfl⟩ := hd
          have hB := hR.rep _ _ hg
          have hlen := hB.1
          have := core (id := id) (p := 0) (l0 := l0) (l := l) (dLen := (φ id).len) (dCap := (φ id).cap) (base := (φ id).addr) hg hl (by omega) (fun h0 => by
            have := (hB.2.2.2.2 (by have := hB.2.2.1; omega)).1
            rw [Nat.zero_mul, Nat.add_zero]; exact this) (by rw [hlen]; exact h)
          exact this
        · cases h
    · cases h
  · next id lo hi' =>
    split at h
    · next e0 l0 hg =>
      cases hb : Nat.beq e0 e with
      | false => rw [hb] at h; cases h
      | true =>
        rw [hb] at h
        have := Q03 hb
        subst this
        dsimp only [chk] at h
        split at h
        · next l hl =>
          obtain ⟨_, h1, h2, h3, q, rfl, hq⟩ := hd
          have hB := hR.rep _ _ hg
          have hlen := hB.1
          exact core (id := id) (p := lo) (l0 := l0) (l := l) (dLen := hi' - lo) (dCap := (φ id).cap - lo) (base := q) hg hl (by omega) (fun h0 => by
            have hne : (φ id).cap ≠ lo := by clear hq; omega
            have hn0 : (φ id).cap ≠ 0 := by clear hq; omega
            rw [hq.1 hne, (hB.2.2.2.2 hn0).1, hB.2.1, Option.map_some, add_lit]) h
        · cases h
    · cases h
  · cases h
theorem Qk8 {t ty e : TypeId} {i : TypeInfo} {zv : Value} (ht : P.underlying t = some (.slice e)) (hi : P.info? e = some i) (hz : i.zero = some zv) {ts : Array TypeId} (hts : ts[0]? = some t) {base : Option Addr} {n cap : Nat} {w' : World}
    (hst : n ≠ 0 → ∃ a, base = some a ∧ (storeCells a (Builtin.zeroCells zv.cells n).toList).run P w = .ok () w') (h0 : n = 0 → w' = w) :
    (Builtin.clear_ ts ty #[.slice base n cap]).run P w = .ok (.tuple #[]) w' := by
  cases n with
  | zero =>
    rw [h0 rfl]
    cases base <;> simp [Builtin.clear_, hts, run_underlying ht]
  | succ n =>
    obtain ⟨a, rfl, h⟩ := hst (by omega)
    simp [Builtin.clear_, hts, run_underlying ht, zeroValue, typeInfo, hi, hz, h]
theorem QkS (z : Array Value) (n i j : Nat) (hi : i < n) (hj : j < z.size) : (Builtin.zeroCells z n)[i * z.size + j]? = z[j]? := by
  have hlt : i * z.size + j < n * z.size := by
    have : (i + 1) * z.size ≤ n * z.size := Nat.mul_le_mul_right _ (by omega)
    rw [Nat.add_mul, Nat.one_mul] at this
    omega
  have hmod : (i * z.size + j) % z.size = j := by rw [Nat.add_comm, Nat.mul_comm, Nat.add_mul_mod_self_left, Nat.mod_eq_of_lt hj]
  have hr : (Array.range (n * z.size))[i * z.size + j]? = some (i * z.size + j) := by rw [Array.getElem?_range, if_pos hlt]
  simp only [Builtin.zeroCells, Array.getElem?_map, hr, Option.map_some, hmod]
  rw [getElem!_pos z j hj, Array.getElem?_eq_getElem hj]
theorem Qj2 (z : Array Value) (n : Nat) : (Builtin.zeroCells z n).size = n * z.size := by simp [Builtin.zeroCells]
theorem QoU (hE : Q0r P E) (hR : Rel E.S (fun i => i < st.nx) φ Fz st.heap w) {t ty : TypeId} {ts : Array TypeId} (hts : ts[0]? = some t) {e : Nat} (ht : sliceOf E t = some e) {ed : TD} (hed : E.tt e = some ed) {z : List (Cell E.S.K)} (hz : ofValues ed.zero = some z) {d : Cell E.S.K} {dv : Value} (hd : CRep E.S (fun i => i < st.nx) φ Fz w d dv)
    {k : Kn E R} {r : R} (h : Q90 E st e z d k = some r) {next : Value → World → Prop} (hG : Goal E.S φ Fz st w k r next) : ∃ u w', (Builtin.clear_ ts ty #[dv]).run P w = .ok u w' ∧ next u w' := by
  obtain ⟨hund, i, zv, ed', hed', hi, hsize, _, hbytes, hb0, hzi, hzc, hzl, hsz⟩ := hE.sliceOf ht
  rw [hed] at hed'; cases hed'
  have hzs : zv.cells.size = E.S.sz e := by rw [← hzl, ← hzc, Array.length_toList]
  have core : ∀ {id p : Nat} {l0 : List (E.S.K e)} {x : E.S.K e} {dLen dCap : Nat} {base : Option Addr}, get st.heap id = some (.vec true e l0) → Qaq E st e z = some (x, []) → p + dLen ≤ l0.length → (0 < dLen → base = some ⟨(φ id).b, (φ id).o + p * E.S.sz e, none⟩) →
      k (.t []) { st with heap := put st.heap id (.vec true e (putAt l0 p (List.replicate dLen x))) } = some r → ∃ u w', (Builtin.clear_ ts ty #[.slice base dLen dCap]).run P w = .ok u w' ∧ next u w' := by
    intro id p l0 x dLen dCap base hg hx hp hbase hk
    have hB := hR.rep _ _ hg
    have hcap : dLen ≠ 0 → (φ id).cap ≠ 0 := fun h0 => by have := hB.1; have := hB.2.2.1; omega
    have ht0 : ∀ w' : World, SRep E.S (fun i => i < st.nx) φ Fz w' (.t []) (.tuple #[]) := fun _ => ⟨[], rfl, .nil⟩
    by_cases h0 : dLen = 0
    · subst h0
      refine ⟨_, w, Qk8 hund hi hzi hts (fun h => absurd rfl h) (fun _ => rfl), ?_⟩
      rw [List.replicate_zero] at hk
      refine hG _ _ φ Fz _ _ hk ⟨hR.congr (Qea id (.vec true e (putAt l0 p [])) st.heap (by rw [QcK]; exact hg)), Nat.le_refl _, rfl, fun _ _ => rfl, fun _ h => h, fun _ h => .inl h, fun k o hO => .inl ?_, Chg.refl _ _⟩ (ht0 _)
      obtain ⟨j, b, hj, ho, hc⟩ := hO
      exact ⟨j, b, by rw [← Qea id (.vec true e (putAt l0 p [])) st.heap (by rw [QcK]; exact hg)]; exact hj, ho, hc⟩
    · have hrow := QbO hR hx (vs := zv.cells.toList) (by rw [hzc]; exact Q3Q hz)
      obtain ⟨vv, hv1, hv2⟩ := QeT (w := w) (Fz' := FzA φ Fz st.heap []) (l := List.replicate dLen x) hsz (cur := Builtin.zeroCells zv.cells dLen) (fun _ => zv.cells.toList) (fun q y hy => by
          rw [List.getElem?_replicate] at hy
          split at hy
          · cases hy; exact hrow
          · cases hy) (fun a b ha hbz => by
          rw [List.length_replicate] at ha
          rw [← hzs] at hbz ⊢
          rw [QkS _ _ _ _ ha hbz, Array.getElem?_toList])
      have hv1' : Vals E.S Fz w e (List.replicate dLen x) vv := Q2B (fun _ _ h => TRep.fz (fun k hk => hk.resolve_right (fun ⟨_, h, _⟩ => by cases h)) h) hv1
      have hlen := hv1'.len
      rw [List.length_replicate] at hlen
      have hvv : (Builtin.zeroCells zv.cells dLen).toList = vv := by
        refine (List.ext_getElem? fun m => ?_).symm
        rw [Array.getElem?_toList (xs := Builtin.zeroCells zv.cells dLen)]
        rcases Nat.lt_or_ge m vv.length with hm | hm
        · rw [List.getElem?_eq_getElem hm, hv2 m _ (List.getElem?_eq_getElem hm)]
        · rw [List.getElem?_eq_none hm, Array.getElem?_eq_none (by rw [Qj2, hzs]; omega)]
      obtain ⟨w', hrun, hA⟩ := QjQ (P := P) hR hg hv1' hsz (p := p) (by rw [List.length_replicate]; omega) (hcap h0)
      refine ⟨_, w', Qk8 hund hi hzi hts (fun _ => ⟨_, hbase (by omega), by rw [hvv]; exact hrun⟩) (fun h => absurd h h0), hG _ _ _ _ _ _ hk hA ⟨[], rfl, .nil⟩⟩
  unfold Q90 at h
  split at h
  · next id =>
    split at h
    · next e0 l0 hg =>
      cases hb : Nat.beq e0 e with
      | false => rw [hb] at h; cases h
      | true =>
        rw [hb] at h
        have := Q03 hb
        subst this
        dsimp only [chk] at h
        split at h
        · next x hx =>
          obtain ⟨_, rfl⟩ := hd
          have hB := hR.rep _ _ hg
          have hlen := hB.1
          have := core (id := id) (p := 0) (l0 := l0) (x := x) (dLen := (φ id).len) (dCap := (φ id).cap) (base := (φ id).addr) hg hx (by omega) (fun h0 => by
            have := (hB.2.2.2.2 (by have := hB.2.2.1; omega)).1
            rw [Nat.zero_mul, Nat.add_zero]; exact this) (by rw [hlen]; exact h)
          exact this
        · cases h
    · cases h
  · next id lo hi' =>
    split at h
    · next e0 l0 hg =>
      cases hb : Nat.beq e0 e with
      | false => rw [hb] at h; cases h
      | true =>
        rw [hb] at h
        have := Q03 hb
        subst this
        dsimp only [chk] at h
        split at h
        · next x hx =>
          obtain ⟨_, h1, h2, h3, q, rfl, hq⟩ := hd
          have hB := hR.rep _ _ hg
          have hlen := hB.1
          exact core (id := id) (p := lo) (l0 := l0) (x := x) (dLen := hi' - lo) (dCap := (φ id).cap - lo) (base := q) hg hx (by omega) (fun h0 => by
            have hne : (φ id).cap ≠ lo := by clear hq; omega
            have hn0 : (φ id).cap ≠ 0 := by clear hq; omega
            rw [hq.1 hne, (hB.2.2.2.2 hn0).1, hB.2.1, Option.map_some, add_lit]) h
        · cases h
    · cases h
  · cases h
theorem Qpi {D : Nat → Prop} {x y : Cell E.S.K} {b : Bool} (h : QiA x y = some b) {vx vy : Value} (hx : CRep E.S D φ Fz w x vx) (hy : CRep E.S D φ Fz w y vy) : eqV vx vy = some b := by
  unfold QiA at h
  split at h
  · next k n k' m =>
    cases hb : Q1M k k' with
    | false => rw [hb] at h; cases h
    | true => rw [hb] at h; rw [Q0v hx, Q0v hy]; simp only [eqV, hb, cond_true]; exact h
  · rw [Q7i hx, Q7i hy]; exact h
  · rw [Q7i hx, Q8p hy]; exact h
  · rw [Q8p hx, Q7i hy]; exact h
  · rw [Q8p hx, Q8p hy]; exact h
  · rw [Q2l hx, Q2l hy]; exact h
  · cases h
theorem Qje {D : Nat → Prop} : ∀ {xs ys : List (Cell E.S.K)} {b : Bool}, Q7n xs ys = some b → ∀ {vx vy : List Value}, All2 (CRep E.S D φ Fz w) xs vx → All2 (CRep E.S D φ Fz w) ys vy → eqVs vx vy = some b
  | [], [], b, h, _, _, .nil, .nil => h
  | [x], [y], b, h, _, _, .cons hx .nil, .cons hy .nil => Qpi h hx hy
  | x :: x2 :: xs, y :: ys, b, h, _, _, .cons hx (.cons hx2 htx), .cons hy hty => by
    simp only [Q7n] at h
    split at h
    · next b1 b2 h1 h2 =>
      cases h
      have e1 := Qpi h1 hx hy
      have e2 := Qje h2 (.cons hx2 htx) hty
      cases hty with
      | nil => simp [eqVs] at e2
      | cons hy2 hty2 => simp only [eqVs, e1, e2]
    · cases h
  | [x], y :: y2 :: ys, b, h, _, _, .cons hx .nil, .cons hy (.cons hy2 hty) => by
    simp only [Q7n] at h
    split at h
    · next b1 b2 h1 h2 => simp [Q7n] at h2
    · cases h
  | [], _ :: _, _, h, _, _, _, _ => by simp [Q7n] at h
  | [_], [], _, h, _, _, _, _ => by simp [Q7n] at h
  | _ :: _ :: _, [], _, h, _, _, _, _ => by simp [Q7n] at h
theorem QjS {a : Act} (hI : Inv E.S φ Fz st a.tmps w) : ∀ {os : List Operand} {cp : List (Nat × Nat)}, Qih E st os = some cp → Q47 (fun i => i < st.nx) cp ∧ os.map a.eval = Q3e φ cp
  | [], cp, h => by cases h; exact ⟨trivial, rfl⟩
  | o :: os, cp, h => by
    simp only [Qih] at h
    split at h
    · next i off r h1 h2 =>
      cases h
      obtain ⟨g1, g2⟩ := QjS hI h2
      have := QS hI h1
      exact ⟨⟨this.1, g1⟩, by rw [List.map_cons, g2, this.2]; rfl⟩
    · cases h
end
end Go.Ve
namespace Go.Ve
open Go.RowKit Go.Lib
set_option linter.unusedVariables false
set_option linter.unusedSimpArgs false
section
variable {P : Program} {E : Env} {R : Type} {φ : Nat → Loc} {Fz : Nat → Prop} {st : St E.S.K} {w : World}
theorem Qr9 {s : Sem Value} {x : Value} {w' : World} (h : s.run P w = .ok x w') : ((do pure (Next.value (← s))) : Sem Next).run P w = .ok (.value x) w' := by simp [h]
theorem Qsb {s : Sem Unit} {w' : World} (h : s.run P w = .ok () w') : ((do s; pure Next.skip) : Sem Next).run P w = .ok .skip w' := by simp [h]
theorem Qs3 {S : Sig} {D : Nat → Prop} {φ : Nat → Loc} {Fz : Nat → Prop} {w : World} {t : TS} {c : Cell S.K} {v : Value} (h : tyC t c = true) (hv : CRep S D φ Fz w c v) : tyV t v := by
  unfold tyC at h
  split at h
  · next k k' n =>
    have hk : k = k' := by cases k <;> cases k' <;> first | rfl | cases h
    have hv' : TRep _ _ _ _ _ := hv
    cases hv'
    exact ⟨_, by rw [hk]⟩
  · have hv' : TRep _ _ _ _ _ := hv
    cases hv'; exact ⟨_, rfl⟩
  · have hv' : TRep _ _ _ _ _ := hv
    cases hv'; exact ⟨_, rfl⟩
  · have hv' : TRep _ _ _ _ _ := hv
    cases hv'; exact ⟨_, rfl⟩
  · cases h
theorem Qfy {S : Sig} {D : Nat → Prop} {φ : Nat → Loc} {Fz : Nat → Prop} {w : World} {ts : List TS} {cs : List (Cell S.K)} {vs : List Value} (h : tysC ts cs = true) (hv : All2 (CRep S D φ Fz w) cs vs) : All2 tyV ts vs := by
  induction hv generalizing ts with
  | nil => cases ts with
    | nil => exact .nil
    | cons _ _ => cases h
  | cons hx _ ih =>
    cases ts with
    | nil => cases h
    | cons t ts =>
      simp only [tysC, Bool.and_eq_true] at h
      exact .cons (Qs3 h.1 hx) (ih h.2)
theorem wp_v {o : Oper} {a : Act} {s : Sem Value} {x : Value} {w' : World} {next : Act → World → Prop} {Q : Exit → Act → World → Prop} (he : execOp a.eval o = (do pure (Next.value (← s)))) (h : s.run P w = .ok x w') (hn : next (a.put o.dst x) w') : o.wp P a w next Q :=
  Q2R (by rw [he]; exact Qr9 h) hn
theorem QcP {t : TypeId} {fields : Array Field} {j : Nat} {f : Field} {i : TypeInfo} (hu : P.underlying t = some (.struct fields)) (hf : fields[j]? = some f) (hi : P.info? f.type = some i) (hs : 1 ≤ i.size) (b o : Nat) :
    (Instr.fieldAt t (.pointer (some ⟨b, o, none⟩)) j).run P w = .ok (.pointer (some ⟨b, o + f.offset, none⟩)) w := by
  have hne : i.size ≠ 0 := by omega
  simp [Instr.fieldAt, run_underlying hu, hf, Instr.sureAddr, fieldPlace, sizeOf, typeInfo, hi, hne, add_lit]
theorem QgB {D : Nat → Prop} {c : Cell E.S.K} {vs : List Value} (h : All2 (CRep E.S D φ Fz w) [c] vs) : ∃ v, vs = [v] ∧ CRep E.S D φ Fz w c v := by
  cases h with
  | cons h t => cases t; exact ⟨_, rfl, h⟩
set_option maxHeartbeats 2000000 in
theorem QrT (hE : Q0r P E) {a : Act} (hI : Inv E.S φ Fz st a.tmps w) {orc : Orc E} {site : Nat → Nat} {o : Oper} {k : Kn E R} {r : R} (hnc : ∀ f as_ ts, o.op ≠ .call { callee := .value f, args := as_, argTypes := ts })
    (h : dop E orc site st o k = some r) {next : Act → World → Prop} {Q : Exit → Act → World → Prop} (hG : Goal E.S φ Fz st w k r (fun x w' => next (a.put o.dst x) w')) : o.wp P a w next Q := by
  have hR := hI.rel
  have same : ∀ {v : SV E.S.K} {x : Value}, k v st = some r → SRep E.S (fun i => i < st.nx) φ Fz w v x → next (a.put o.dst x) w := fun hk hs => hG _ _ _ _ _ _ hk (After.refl hR) hs
  unfold dop at h
  split at h
  · next x heq =>
    split at h
    · next v hv => exact Q2R (x := a.eval x) (w' := w) (by simp only [execOp, heq]; rfl) (same h (Q3J hI hv))
    · cases h
  · next x heq =>
    split at h
    · next v hv => exact Q2R (x := a.eval x) (w' := w) (by simp only [execOp, heq]; rfl) (same h (Q3J hI hv))
    · cases h
  · next q x y heq =>
    split at h
    · next t va vb hq hx hy =>
      have hqv := Q7i (QS hI hq)
      have hrun : (execOp a.eval o).run P w = .ok (.value (if t then a.eval x else a.eval y)) w := by
        simp only [execOp, heq, hqv, asBool]
        cases t <;> rfl
      unfold sif at h
      cases t with
      | true => exact Q2R hrun (same h (Q3J hI hx))
      | false => exact Q2R hrun (same h (Q3J hI hy))
    · next t va vb hq hx hy =>
      have hqv := Q8p (QS hI hq)
      have hrun : (execOp a.eval o).run P w = .ok (.value (if t then a.eval x else a.eval y)) w := by
        simp only [execOp, heq, hqv, asBool]
        cases t <;> rfl
      cases t with
      | true => exact Q2R hrun (same h (Q3J hI hx))
      | false => exact Q2R hrun (same h (Q3J hI hy))
    · cases h
  · next t heq =>
    split at h
    · next td ht =>
      split at h
      · next z hz =>
        obtain ⟨i, d, zv, h1, _, _, _, _, h6, h7, _⟩ := (hE.tt t td ht).ex
        have hzz : All2 (CRep E.S (fun i => i < st.nx) φ Fz w) z zv.cells.toList := by rw [h7]; exact Q3Q hz
        refine wp_v (s := Instr.alloc t true (.tuple #[])) (by simp only [execOp, heq]) (x := .pointer (some ⟨w.heap.size, 0, none⟩)) (w' := w.alloc (.cells zv.cells t)) ?_ ?_
        · simp [Instr.alloc, zeroValue, typeInfo, h1, h6, Go.newVar, Go.newRow]
        · cases hbt : isBt E t with
          | false =>
            rw [hbt] at h
            have := Qkm hR hzz (by revert h; cases z <;> exact id) t hG
            simpa using this
          | true =>
            rw [hbt] at h
            unfold isBt at hbt
            split at hbt
            · next T hT =>
              have hTt := Q03 hbt
              subst hTt
              split at h
              · next b =>
                generalize hl : zv.cells.toList = l at hzz
                cases hzz with
                | cons h1 h2 =>
                  cases h2 with
                  | cons h2 h3 =>
                    cases h3
                    have hv : zv.cells = #[_, _] := Array.toList_inj.1 hl
                    rw [show _ = Value.pointer none from h1] at hv
                    rw [hv]
                    exact QqN hR h2 hT h hG
              · cases h
              · next hne => cases hne
            · cases hbt
      · cases h
    · cases h
  · next t x heq =>
    split at h
    · next v hv =>
      cases hf : full v.cells with
      | false => rw [hf] at h; cases h
      | true =>
        rw [hf] at h
        have hvv := Qbm (Q2A hI hv) hf
        refine wp_v (s := Instr.box t (a.eval x)) (by simp only [execOp, heq]) (x := .pointer (some ⟨w.heap.size, 0, none⟩)) (w' := w.alloc (.cells (a.eval x).cells t)) ?_ ?_
        · simp [Instr.box, Go.newVar, Go.newRow]
        · have := Qkm hR hvv h t hG
          simpa using this
    · cases h
  · next t parts heq =>
    split at h
    · next td ht =>
      split at h
      · next fs z ps hk hz hp =>
        split at h
        · next cs hf =>
          obtain ⟨res, h1, h2⟩ := Qqo hE ht hk hz (QcD hI hp) hf
          refine wp_v (s := Instr.build t (parts.map fun (i, x) => (i, a.eval x))) (by simp only [execOp, heq]) (x := .agg res) (w' := w) ?_ (same h ⟨res.toList, by simp, h2⟩)
          rw [← h1]; congr 2
          apply Array.ext'; simp
        · cases h
      · next m e z ps hk hz hp =>
        split at h
        · next cs hf =>
          obtain ⟨res, h1, h2⟩ := Qp8 hE ht hk hz (QcD hI hp) hf
          refine wp_v (s := Instr.build t (parts.map fun (i, x) => (i, a.eval x))) (by simp only [execOp, heq]) (x := .agg res) (w' := w) ?_ (same h ⟨res.toList, by simp, h2⟩)
          rw [← h1]; congr 2
          apply Array.ext'; simp
        · cases h
      · cases h
    · cases h
  · next t n parts heq =>
    split at h
    · next e ps hs hp =>
      split at h
      · next ed hed =>
        split at h
        · next z hz =>
          cases hck : (Nat.ble (n * E.S.sz e) 16777216 && (parts.toList.all fun p => Nat.blt p.1 n) && Q15 (parts.toList.map (·.1)) && ps.all fun p => full p.2.cells) with
          | false => rw [hck] at h; cases h
          | true =>
            rw [hck] at h
            simp only [Bool.and_eq_true] at hck
            obtain ⟨⟨⟨c1, c2⟩, c3⟩, c4⟩ := hck
            dsimp only [chk] at h
            split at h
            · next l fr hrows =>
              obtain ⟨v, w', g1, g2⟩ := QkU hE hR hs hed hz (QcD hI hp) (Nat.le_of_ble_eq_true c1) (fun p hp => by
                obtain ⟨q, hq, rfl⟩ := List.mem_map.1 hp
                have := List.all_eq_true.1 c2 q hq
                exact Nat.le_of_ble_eq_true this) (by rw [List.map_map]; exact c3) (fun p hp => List.all_eq_true.1 c4 p hp) hrows h hG
              refine wp_v (s := Instr.buildSlice t n (parts.map fun (i, x) => (i, a.eval x))) (by simp only [execOp, heq]) ?_ g2
              rw [← g1]; congr 2
              apply Array.ext'; simp
            · cases h
        · cases h
      · cases h
    · cases h
  · next t p heq =>
    split at h
    · next td pc ht hp =>
      obtain ⟨i, d, zv, h1, h2, h3, _, h5, _⟩ := (hE.tt t td ht).ex
      obtain ⟨b, oo, cs, vs, hpv, hk, hlen, hvs, hcell⟩ := Qlv hR (QS hI hp) h
      have hvl := hvs.len
      obtain ⟨l1, l2⟩ := QgE h1 h2 (w := w) (b := b) (o := oo) (vs := vs) (by omega) hcell
      have hload : ∀ x, (loadVar t ⟨b, oo, none⟩).run P w = .ok x w → (Instr.loadAt t (a.eval p)).run P w = .ok x w := fun x hx => by
        rw [hpv]; simp [Instr.loadAt, Instr.sureAddr, hx]
      split at hk
      · next hag =>
        refine wp_v (s := Instr.loadAt t (a.eval p)) (by simp only [execOp, heq]) (hload _ (l1 (by rw [← h5]; exact hag))) (same hk ⟨vs, rfl, hvs⟩)
      · next hag =>
        split at hk
        · next c =>
          obtain ⟨v, rfl, hc⟩ := QgB hvs
          exact wp_v (s := Instr.loadAt t (a.eval p)) (by simp only [execOp, heq]) (hload _ (l2 (by rw [← h5]; exact hag) v rfl)) (same hk hc)
        · cases hk
    · cases h
  · next t p x heq =>
    split at h
    · next td pc v ht hp hv =>
      cases hck : (Nat.beq v.cells.length td.size && full v.cells) with
      | false => rw [hck] at h; cases h
      | true =>
        rw [hck] at h
        simp only [Bool.and_eq_true] at hck
        obtain ⟨i, d, zv, h1, _, h3, _⟩ := (hE.tt t td ht).ex
        have hvv := Qbm (Q2A hI hv) hck.2
        have hvl := hvv.len
        have hts : (a.eval x).cells.toList.length = (a.eval x).cells.size := Array.length_toList
        have e1 := Q03 hck.1
        obtain ⟨b, oo, w', hpv, hrun, hn⟩ := Qqe (P := P) hR hck.2 hvv (QS hI hp) h (next := fun x w' => next (a.put o.dst x) w') (fun st' φ' Fz' w' hk hA => hG _ _ _ _ _ _ hk hA ⟨[], rfl, .nil⟩)
        refine Qot (w' := w') ?_ hn
        simp only [execOp, heq]
        refine Qsb ?_
        rw [hpv]
        have hsz : (a.eval x).cells.size = i.size := by omega
        simp [Instr.storeAt, Instr.sureAddr, storeVar, sizeOf, typeInfo, h1, hsz, hrun]
    · cases h
  · next x heq =>
    split at h
    · next i oo hc =>
      have hv := QS hI hc
      exact Q2R (x := a.eval x) (w' := w) (by simp only [execOp, heq]; rw [hv.2]; rfl) (same h hv)
    · next i j oo hc =>
      have hv := QS hI hc
      exact Q2R (x := a.eval x) (w' := w) (by simp only [execOp, heq]; rw [hv.2.2]; rfl) (same h hv)
    · next e v oo hc =>
      have hv := QS hI hc
      refine Q2R (x := a.eval x) (w' := w) ?_ (same h hv)
      obtain ⟨b, q, hv', _⟩ := hv
      simp only [execOp, heq]; rw [hv']; rfl
    · next f cp hc =>
      have hv := QS hI hc
      exact Q2R (x := a.eval x) (w' := w) (by simp only [execOp, heq]; rw [hv.2]; rfl) (same h hv)
    · cases h
  · next op t x y q heq =>
    split at h
    · next ca cb hx hy =>
      obtain ⟨c, u, h1, h2, h3⟩ := Qnl (P := P) hE (a := a) (D := fun i => i < st.nx) (Q2A hI hx) (Q2A hI hy) h
      exact wp_v (by simp only [execOp, heq]) h2 (same h1 h3)
    · next xs ys hx hy =>
      cases hq : E.eqs t with
      | none => rw [hq] at h; cases h
      | some ts =>
        rw [hq] at h
        dsimp only at h
        have hty : (tysC ts xs && tysC ts ys) = true := by
          cases ht : (tysC ts xs && tysC ts ys) with
          | true => rfl
          | false => rw [ht] at h; cases h
        rw [hty] at h
        dsimp only [chk] at h
        rw [Bool.and_eq_true] at hty
        obtain ⟨hgd, heqs⟩ := hE.eqs t ts hq
        obtain ⟨vx, hvx, hxx⟩ := Q2A hI hx
        obtain ⟨vy, hvy, hyy⟩ := Q2A hI hy
        have hguard : ∀ op', (eqGuard op' t x y (a.eval x) (a.eval y)).run P w = .ok () w := fun op' => by
          rw [hvx, hvy]
          unfold eqGuard
          cases op' <;> simp [hgd]
        split at h
        · next b hb =>
          have := heqs vx vy b w (Qfy hty.1 hxx) (Qfy hty.2 hyy) (Qje hb hxx hyy)
          refine wp_v (s := do eqGuard .eql t x y (a.eval x) (a.eval y); binOp .eql t (a.eval x) (a.eval y)) (by simp only [execOp, heq]) (x := .bool b) (w' := w) ?_ (same h (TRep.bool _))
          rw [Sem.run_bind, hguard]
          simp only [Result.andThen_ok]
          rw [hvx, hvy]
          simp [binOp, this]
        · next b hb =>
          have := heqs vx vy b w (Qfy hty.1 hxx) (Qfy hty.2 hyy) (Qje hb hxx hyy)
          refine wp_v (s := do eqGuard .neq t x y (a.eval x) (a.eval y); binOp .neq t (a.eval x) (a.eval y)) (by simp only [execOp, heq]) (x := .bool (!b)) (w' := w) ?_ (same h (TRep.bool _))
          rw [Sem.run_bind, hguard]
          simp only [Result.andThen_ok]
          rw [hvx, hvy]
          simp [binOp, this]
        · cases h
    · cases h
  · next op t x heq =>
    split at h
    · next c hc =>
      obtain ⟨c', u, h1, h2, h3⟩ := Qpk (P := P) (w := w) (a := a) (QS hI hc) h
      exact wp_v (by simp only [execOp, heq]) h2 (same h1 h3)
    · cases h
  · next s d x heq =>
    split at h
    · next sd dd c hs hd hc =>
      obtain ⟨u, w', h1, h2⟩ := Qn0 hE hR hs hd (QS hI hc) h hG
      exact wp_v (by simp only [execOp, heq]) h1 h2
    · cases h
  · next f first caps heq =>
    split at h
    · next cp hfst hc =>
      obtain ⟨h1, h2⟩ := QjS hI hc
      refine wp_v (s := Instr.makeFunc (.func f) (first.map a.eval) (caps.map a.eval)) (by simp only [execOp, heq]) (x := .func (.func f) #[] (Q3e φ cp).toArray) (w' := w) ?_ (same h ⟨h1, rfl⟩)
      have : caps.map a.eval = (Q3e φ cp).toArray := by apply Array.ext'; simpa using h2
      have hf : first.map a.eval = #[] := by apply Array.ext'; simp [hfst]
      rw [this, hf]; rfl
    · cases h
  · next t n m heq =>
    split at h
    · next e q n' q' m' hs hn hm =>
      split at h
      · next ed hed =>
        split at h
        · next z hz =>
          split at h
          · next x hx =>
            unfold sif at h
            split at h
            · next hb =>
              have e1 := Q0v (QS hI hn)
              have e2 := Q0v (QS hI hm)
              obtain ⟨v, w', h1, h2⟩ := QlL hE hR hs hed hz hx hb h hG
              exact wp_v (s := Instr.makeSlice t (a.eval n) (a.eval m)) (by simp only [execOp, heq]) (by rw [e1, e2]; exact h1) h2
            · cases h
          · cases h
        · cases h
      · cases h
    · cases h
  · next t x lo hi heq =>
    split at h
    · next c lo' hi' hc hlo hhi =>
      obtain ⟨c', u, h1, h2, h3⟩ := QpV hE hR (QS hI hc) (Qkn (P := P) hI hlo) (Qkn (P := P) hI hhi) h
      exact wp_v (s := Instr.sliceAt t (a.eval x) (lo.map a.eval) (hi.map a.eval) none) (by simp only [execOp, heq]; rfl) h2 (same h1 h3)
    · cases h
  · next t x f heq =>
    split at h
    · next td c ht hc =>
      split at h
      · next fs hk =>
        split at h
        · next off ft size hf =>
          obtain ⟨_, d, _, _, h2, _, _, _, _, _, _, h9⟩ := (hE.tt t td ht).ex
          rw [hk] at h9
          obtain ⟨fields, rfl, _, hfld⟩ := h9
          obtain ⟨fd, i, g1, g2, g3, g4, g5⟩ := hfld f off ft size hf
          have hv := QS hI hc
          split at h
          · next id q =>
            cases hb : Nat.ble 1 size with
            | false => rw [hb] at h; cases h
            | true =>
              rw [hb] at h
              have := Nat.le_of_ble_eq_true hb
              refine wp_v (s := Instr.fieldAt t (a.eval x) f) (by simp only [execOp, heq]) (x := ptrV (φ id) (q + off)) (w' := w) ?_ (same h ⟨hv.1, rfl⟩)
              rw [hv.2, ← g2]
              have := QcP (w := w) h2 g1 (by rw [g3]; exact g4) (by omega) (φ id).b ((φ id).o + q)
              rw [Nat.add_assoc] at this
              exact this
          · next id j q =>
            cases hb : Nat.ble 1 size with
            | false => rw [hb] at h; cases h
            | true =>
              rw [hb] at h
              have := Nat.le_of_ble_eq_true hb
              refine wp_v (s := Instr.fieldAt t (a.eval x) f) (by simp only [execOp, heq]) (x := ptrV (φ id) (j * (φ id).sz + (q + off))) (w' := w) ?_ (same h ⟨hv.1, hv.2.1, rfl⟩)
              rw [hv.2.2, ← g2]
              have := QcP (w := w) h2 g1 (by rw [g3]; exact g4) (by omega) (φ id).b ((φ id).o + (j * (φ id).sz + q))
              rw [Nat.add_assoc, Nat.add_assoc] at this
              exact this
          · next e v q =>
            cases hb : Nat.ble 1 size with
            | false => rw [hb] at h; cases h
            | true =>
              rw [hb] at h
              have := Nat.le_of_ble_eq_true hb
              obtain ⟨b, oo, hv', hfz, hcells⟩ := hv
              refine wp_v (s := Instr.fieldAt t (a.eval x) f) (by simp only [execOp, heq]) (x := .pointer (some ⟨b, oo + (q + off), none⟩)) (w' := w) ?_ (same h ⟨b, oo, rfl, hfz, hcells⟩)
              rw [hv', ← g2]
              have := QcP (w := w) h2 g1 (by rw [g3]; exact g4) (by omega) b (oo + q)
              rw [Nat.add_assoc] at this
              exact this
          · cases h
        · cases h
      · cases h
    · cases h
  · next t x f heq =>
    split at h
    · next td cs ht hx =>
      split at h
      · next fs hk =>
        split at h
        · next off ft size hf =>
          split at h
          · next fd hfd =>
            cases hb : Nat.ble (off + size) cs.length with
            | false => rw [hb] at h; cases h
            | true =>
              rw [hb] at h
              have hb := Nat.le_of_ble_eq_true hb
              dsimp only [chk] at h
              obtain ⟨_, d, _, _, h2, _, _, _, _, _, _, h9⟩ := (hE.tt t td ht).ex
              rw [hk] at h9
              obtain ⟨fields, rfl, _, hfld⟩ := h9
              obtain ⟨fdd, i, g1, g2, g3, g4, g5⟩ := hfld f off ft size hf
              obtain ⟨fi, fdd', fz, q1, q2, q3, _, q5, _⟩ := (hE.tt ft fd hfd).ex
              rw [g4] at q1; cases q1
              obtain ⟨vs, hvx, hxx⟩ := Q2A hI hx
              have hvl := hxx.len
              have hsub := (hxx.drop off).take size
              have hfield : ∀ y, (Go.part ft vs.toArray off).run P w = .ok y w → (Instr.field t (a.eval x) f).run P w = .ok y w := fun y hy => by
                rw [hvx]; simp [Instr.field, run_underlying h2, g1, asAgg, g3, g2, hy]
              split at h
              · next hag =>
                refine wp_v (s := Instr.field t (a.eval x) f) (by simp only [execOp, heq]) (x := .agg ((vs.drop off).take size).toArray) (w' := w) (hfield _ ?_) (same h ⟨_, rfl, hsub⟩)
                have hg : (isAgg ft).run P w = .ok true w := by
                  rw [q5] at hag
                  cases fdd' <;> simp [QaF] at hag <;> simp [isAgg, run_underlying q2]
                simp only [Go.part, Sem.run_bind, hg, Result.andThen_ok, if_true, sizeOf, typeInfo, run_program, g4, Sem.run_pure]
                congr 2
                apply Array.ext'
                simp [g5, List.take_drop, Nat.add_comm]
              · next hag =>
                split at h
                · next c hc1 =>
                  rw [hc1] at hsub
                  obtain ⟨v, hv, hcv⟩ := QgB hsub
                  refine wp_v (s := Instr.field t (a.eval x) f) (by simp only [execOp, heq]) (x := v) (w' := w) (hfield _ ?_) (same h hcv)
                  have hg : (isAgg ft).run P w = .ok false w := by
                    rw [q5] at hag
                    cases fdd' <;> simp [QaF] at hag <;> simp [isAgg, run_underlying q2]
                  have hget : vs[off]? = some v := by
                    have : ((vs.drop off).take size)[0]? = some v := by rw [hv]; rfl
                    simpa using (Q95 this).1
                  simp [Go.part, Sem.run_bind, hg, hget]
                · cases h
          · cases h
        · cases h
      · cases h
    · cases h
  · next t x i heq =>
    split at h
    · next c q n hc hn =>
      have e1 := Q0v (QS hI hn)
      obtain ⟨c', u, h1, h2, h3⟩ := Ql6 (kd := q) hE hR (QS hI hc) h
      exact wp_v (s := Instr.indexAt t (a.eval x) (a.eval i)) (by simp only [execOp, heq]) (by rw [e1]; exact h2) (same h1 h3)
    · cases h
  · next t x i heq =>
    split at h
    · next s q n hs hn =>
      cases hk : isStr (kindOf E t) with
      | false => rw [hk] at h; cases h
      | true =>
        rw [hk] at h
        dsimp only [chk] at h
        have hu : P.underlying t = some .string := by
          cases hkk : kindOf E t <;> rw [hkk] at hk <;> simp [isStr] at hk
          obtain ⟨d, h1, h2⟩ := hE.kind hkk (by simp); rw [h1]; exact congrArg some h2
        unfold sbind at h
        split at h
        · next b hb =>
          unfold bidx at hb
          split at hb
          · next h0 =>
            cases hg : s[n.toNat]? with
            | none => rw [hg] at hb; cases hb
            | some bb =>
              rw [hg] at hb
              simp only [Option.map_some, Option.some.injEq] at hb
              subst hb
              have e1 := Q0v (QS hI hn)
              have e2 := Q2l (QS hI hs)
              refine wp_v (s := Instr.index t (a.eval x) (a.eval i)) (by simp only [execOp, heq]) (x := .int .u8 bb.toNat) (w' := w) ?_ (same h (TRep.int _ _))
              rw [e1, e2]
              simp [Instr.index, asIntOf, run_underlying hu, h0, hg]
          · cases hb
        · cases h
    · next q n _ hn =>
      split at h
      · next cs m e hx hk =>
        split at h
        · next l hl =>
          cases hc : (isStr (kindOf E e) && Nat.beq l.length m) with
          | false => rw [hc] at h; cases h
          | true =>
            rw [hc] at h
            dsimp only [chk] at h
            simp only [Bool.and_eq_true] at hc
            have hlm := Q03 hc.2
            obtain ⟨d, hd1, hd2, ie, hd3, hd4⟩ := hE.kind hk (by simp)
            subst hd2
            have hu : P.underlying e = some .string := by
              have hs := hc.1
              cases hkk : kindOf E e <;> rw [hkk] at hs <;> simp [isStr] at hs
              obtain ⟨d, h1, h2⟩ := hE.kind hkk (by simp); rw [h1]; exact congrArg some h2
            unfold sbind at h
            split at h
            · next b hb =>
              unfold idx at hb
              split at hb
              · next h0 =>
                have hlt := (List.getElem?_eq_some_iff.1 hb).1
                have e1 := Q0v (QS hI hn)
                obtain ⟨vs, e2, e3⟩ := Q2A hI hx
                obtain ⟨g1, g2⟩ := Qkl hl e3
                refine wp_v (s := Instr.index t (a.eval x) (a.eval i)) (by simp only [execOp, heq]) (x := .string b) (w' := w) ?_ (same h (TRep.str _))
                rw [e1, e2]
                have hv : vs[n.toNat]? = some (.string b) := g2 _ _ hb
                simp [Instr.index, asIntOf, run_underlying hd1, h0, sizeOf, typeInfo, hd3, hd4, Go.part, isAgg, run_underlying hu, hv, show n < (m : Int) by omega]
              · cases hb
            · cases h
        · cases h
      · cases h
    · cases h
  · next x i heq =>
    split at h
    · next xs hx =>
      split at h
      · next v hv =>
        obtain ⟨vs, hxv, hvs⟩ := Q3J hI hx
        obtain ⟨u, hu, hr⟩ := hvs.get hv
        refine wp_v (s := Instr.extract (a.eval x) i) (by simp only [execOp, heq]) (x := u) (w' := w) ?_ (same h hr)
        rw [hxv]; simp [Instr.extract, hu]
      · cases h
    · cases h
  · next b as_ ts heq =>
    have hbi : ∀ (vs : List Value) (s : Sem Value), as_.toList.map a.eval = vs → (∀ cs, builtin b ts o.type cs vs.toArray = (do pure (Next.value (← s)))) → ∀ u w', s.run P w = .ok u w' → next (a.put o.dst u) w' → o.wp P a w next Q := fun vs s hvs hb u w' hrun hn => by
      refine Q2R (x := u) (w' := w') ?_ hn
      have hmap : as_.map a.eval = vs.toArray := by apply Array.ext'; simpa using hvs
      simp only [execOp, heq, resolve, invoke, hmap]
      show ((builtin b ts o.type _ vs.toArray) : Sem Next).run P w = _
      rw [hb]; exact Qr9 hrun
    split at h
    · next c has =>
      split at h
      · next t hts =>
        have hvs := Q3l hI has
        generalize hmm : as_.toList.map a.eval = vs at hvs
        cases hvs with
        | cons hc ht =>
          cases ht
          obtain ⟨c', u, h1, h2, h3⟩ := Qrs (P := P) (ty := o.type) hE hR hts hc h
          exact hbi _ (Builtin.len_ ts o.type #[_]) hmm (fun _ => rfl) u w h2 (same h1 h3)
      · cases h
    · next s x has =>
      split at h
      · next t u hts hus =>
        split at h
        · next e hs =>
          cases hk : (isSlice (kindOf E u) || isStr (kindOf E u)) with
          | false => rw [hk] at h; cases h
          | true =>
            rw [hk] at h
            have hvs := Q3l hI has
            generalize hmm : as_.toList.map a.eval = vs at hvs
            cases hvs with
            | cons hc ht =>
              cases ht with
              | cons hx ht =>
                cases ht
                obtain ⟨v, w', h1, h2⟩ := Qoy (P := P) (ty := o.type) hE hR hs hk hc hx h hG
                refine hbi _ (Builtin.append_ ts o.type #[_, _]) hmm (fun _ => rfl) v w' ?_ h2
                rw [← h1]
                unfold Builtin.append_
                simp [hts, hus]
        · cases h
      · cases h
    · next d x has =>
      split at h
      · next t hts =>
        split at h
        · next e hs =>
          have hvs := Q3l hI has
          generalize hmm : as_.toList.map a.eval = vs at hvs
          cases hvs with
          | cons hc ht =>
            cases ht with
            | cons hx ht =>
              cases ht
              obtain ⟨v, w', h1, h2⟩ := Qqt (P := P) (ty := o.type) hE hR hts hs hc hx h hG
              exact hbi _ (Builtin.copy_ ts o.type #[_, _]) hmm (fun _ => rfl) v w' h1 h2
        · cases h
      · cases h
    · next d has =>
      split at h
      · next t hts =>
        split at h
        · next e hs =>
          split at h
          · next ed hed =>
            split at h
            · next z hz =>
              have hvs := Q3l hI has
              generalize hmm : as_.toList.map a.eval = vs at hvs
              cases hvs with
              | cons hc ht =>
                cases ht
                obtain ⟨v, w', h1, h2⟩ := QoU (P := P) (ty := o.type) hE hR hts hs hed hz hc h hG
                exact hbi _ (Builtin.clear_ ts o.type #[_]) hmm (fun _ => rfl) v w' h1 h2
            · cases h
          · cases h
        · cases h
      · cases h
    · next i n q m has =>
      have hvs := Q3l hI has
      generalize hmm : as_.toList.map a.eval = vs at hvs
      cases hvs with
      | cons hc ht =>
        cases ht with
        | cons hx ht =>
          cases ht
          have e1 := Q0v (D := fun i => i < st.nx) (φ := φ) (Fz := Fz) (w := w) hc
          have e2 := Q0v (D := fun i => i < st.nx) (φ := φ) (Fz := Fz) (w := w) hx
          subst e1 e2
          exact hbi _ (Builtin.max_ ts o.type #[_, _]) hmm (fun _ => rfl) _ w rfl (same h (TRep.int _ _))
    · next i n q m has =>
      have hvs := Q3l hI has
      generalize hmm : as_.toList.map a.eval = vs at hvs
      cases hvs with
      | cons hc ht =>
        cases ht with
        | cons hx ht =>
          cases ht
          have e1 := Q0v (D := fun i => i < st.nx) (φ := φ) (Fz := Fz) (w := w) hc
          have e2 := Q0v (D := fun i => i < st.nx) (φ := φ) (Fz := Fz) (w := w) hx
          subst e1 e2
          exact hbi _ (Builtin.min_ ts o.type #[_, _]) hmm (fun _ => rfl) _ w rfl (same h (TRep.int _ _))
    · cases h
  · next f as_ ts heq => exact absurd heq (hnc f as_ ts)
  · cases h
end
end Go.Ve
namespace Go.Ve
open Go.RowKit Go.Lib
set_option linter.unusedVariables false
set_option linter.unusedSimpArgs false
section
variable {S : Sig}
structure QcJ (n : List BS) (ren : Nat → Nat × Nat) (D1 : Nat → Prop) (φ1 : Nat → Loc) (D2 : Nat → Prop) (φ2 : Nat → Loc) : Prop where
  vec : ∀ i, QfI n i = true → D1 i → D2 (ren i).1 ∧ φ2 (ren i).1 = φ1 i
  var : ∀ i, isVar n i = true → D1 i → D2 (ren i).1 ∧ ∀ off, ptrV (φ2 (ren i).1) ((ren i).2 + off) = ptrV (φ1 i) off
variable {n : List BS} {ren : Nat → Nat × Nat} {D1 : Nat → Prop} {φ1 : Nat → Loc} {D2 : Nat → Prop} {φ2 : Nat → Loc}
def Tr1 (S : Sig) (D1 : Nat → Prop) (φ1 : Nat → Loc) (D2 : Nat → Prop) (φ2 : Nat → Loc) (c c' : Cell S.K) : Prop := ∀ (Fz : Nat → Prop) (w : World) (v : Value), CRep S D1 φ1 Fz w c v → CRep S D2 φ2 Fz w c' v
def Qbn {K : Nat → Type} : Cell K → Bool
  | .arr _ _ | .tpt _ _ _ => false
  | _ => true
theorem CRep.flat {D : Nat → Prop} {φ : Nat → Loc} {Fz Fz' : Nat → Prop} {w : World} {c : Cell S.K} (hc : Qbn c = true) {v : Value} (h : CRep S D φ Fz w c v) : CRep S D φ Fz' w c v := by
  cases c <;> first | exact h | (simp [Qbn] at hc; done) | (have h' : TRep _ _ _ _ _ := h; cases h'; constructor)
theorem Qmv (h : QcJ n ren D1 φ1 D2 φ2) : ∀ {l : List (Nat × Nat)}, Qdo n l = true → Q47 D1 l → Q47 D2 (Q7C ren l) ∧ Q3e φ2 (Q7C ren l) = Q3e φ1 l
  | [], _, _ => ⟨trivial, rfl⟩
  | (i, o) :: l, hk, hd => by
    simp only [Qdo, Bool.and_eq_true] at hk
    obtain ⟨g1, g2⟩ := Qmv h hk.2 hd.2
    obtain ⟨q1, q2⟩ := h.var i hk.1 hd.1
    exact ⟨⟨q1, g1⟩, by simp only [Q7C, Q3e]; rw [q2, g2]⟩
theorem QiD : ∀ l : List (Nat × Nat), Q7C (fun i => (i, 0)) l = l
  | [] => rfl
  | (i, o) :: l => by simp [Q7C, QiD l]
theorem QiM (h : QcJ n ren D1 φ1 D2 φ2) {s : CS} {r : List (Cell S.K)} {x x' : Cell S.K × List (Cell S.K)} (hx : Q13 n (fun i => (i, 0)) s r = some x) (hx' : Q13 n ren s r = some x') : x'.2 = x.2 ∧ Tr1 S D1 φ1 D2 φ2 x.1 x'.1 ∧ (Q4x [s] = false → Qbn x'.1 = true) := by
  cases s with
  | d t =>
    cases r with
    | nil => simp [Q13] at hx
    | cons c r =>
      simp only [Q13] at hx hx'
      split at hx
      · next hf =>
        rw [hf] at hx'
        cases hx; cases hx'
        refine ⟨rfl, fun Fz w v hv => ?_, fun ht => ?_⟩
        · cases t <;> cases c <;> simp [Qli] at hf <;> exact hv
        · cases t <;> cases c <;> simp [Qli] at hf <;> first | rfl | (simp [Q4x] at ht)
      · cases hx
  | vec i =>
    simp only [Q13] at hx hx'
    split at hx
    · next hf => rw [hf] at hx'; cases hx; cases hx'; exact ⟨rfl, fun Fz w v hv => ⟨(h.vec i hf hv.1).1, by rw [(h.vec i hf hv.1).2]; exact hv.2⟩, fun _ => rfl⟩
    · cases hx
  | ptr i off =>
    simp only [Q13] at hx hx'
    split at hx
    · next hf =>
      rw [hf] at hx'; cases hx; cases hx'
      exact ⟨rfl, fun Fz w v hv => ⟨(h.var i hf hv.1).1, by rw [(h.var i hf hv.1).2, hv.2]; simp⟩, fun _ => rfl⟩
    · cases hx
  | fn f caps =>
    simp only [Q13] at hx hx'
    split at hx
    · next hf =>
      rw [hf] at hx'; cases hx; cases hx'
      refine ⟨rfl, fun Fz w v hv => ?_, fun _ => rfl⟩
      rw [QiD] at hv
      obtain ⟨g1, g2⟩ := Qmv h hf hv.1
      exact ⟨g1, by rw [g2]; exact hv.2⟩
    · cases hx
  | nofn => cases hx; cases hx'; exact ⟨rfl, fun _ _ _ hv => hv, fun _ => rfl⟩
  | nilp => cases hx; cases hx'; exact ⟨rfl, fun _ _ _ hv => hv, fun _ => rfl⟩
  | self i =>
    simp only [Q13] at hx hx'
    split at hx
    · next hf =>
      cases hx
      split at hx'
      · next hf' =>
        cases hx'
        simp only [Bool.and_eq_true] at hf hf'
        refine ⟨rfl, fun Fz w v hv => ⟨(h.var i hf.1 hv.1).1, ?_, hv.2.2.imp (fun h => h) (fun hp => ?_)⟩, fun _ => rfl⟩
        · have := (h.var i hf.1 hv.1).2 0
          rw [Q03 hf'.2] at this
          simp only [ptrV, Value.pointer.injEq, Option.some.injEq, Addr.mk.injEq, Nat.zero_add, Nat.add_zero, and_true] at this
          rw [this.1, this.2]; exact hv.2.1
        · have := (h.var i hf.1 hv.1).2 0
          rw [Q03 hf'.2] at this
          rw [hp, ← this]
      · cases hx'
    · cases hx
  | any => cases hx; cases hx'; exact ⟨rfl, fun _ _ _ _ => trivial, fun _ => rfl⟩
theorem Qmr {s : CS} {ss : List CS} (h : Q4x (s :: ss) = false) : Q4x [s] = false ∧ Q4x ss = false := by
  cases s with
  | d t => cases t <;> simp [Q4x] at h ⊢ <;> exact h
  | _ => simp [Q4x] at h ⊢; exact h
theorem QcS (h : QcJ n ren D1 φ1 D2 φ2) : ∀ {ss : List CS} {r : List (Cell S.K)} {x x' : List (Cell S.K) × List (Cell S.K)}, Q31 n (fun i => (i, 0)) ss r = some x → Q31 n ren ss r = some x' → x'.2 = x.2 ∧ All2 (Tr1 S D1 φ1 D2 φ2) x.1 x'.1 ∧ (Q4x ss = false → ∀ c ∈ x'.1, Qbn c = true)
  | [], r, x, x', hx, hx' => by cases hx; cases hx'; exact ⟨rfl, .nil, fun _ c hc => by cases hc⟩
  | s :: ss, r, x, x', hx, hx' => by
    simp only [Q31] at hx hx'
    split at hx
    · next c r1 h1 =>
      split at hx
      · next cs r2 h2 =>
        cases hx
        split at hx'
        · next c' r1' h1' =>
          split at hx'
          · next cs' r2' h2' =>
            cases hx'
            obtain ⟨e, t, f⟩ := QiM h h1 h1'
            dsimp only at e t f
            subst e
            obtain ⟨e2, t2, f2⟩ := QcS h h2 h2'
            refine ⟨e2, .cons t t2, fun ht c0 hc0 => ?_⟩
            obtain ⟨g1, g2⟩ := Qmr ht
            rcases List.mem_cons.1 hc0 with rfl | hc0
            · exact f g1
            · exact f2 g2 c0 hc0
          · cases hx'
        · cases hx'
      · cases hx
    · cases hx
def TrF (S : Sig) (D1 : Nat → Prop) (φ1 : Nat → Loc) (D2 : Nat → Prop) (φ2 : Nat → Loc) (x x' : FV S.K) : Prop := ∀ (Fz : Nat → Prop) (w : World) (v : Value), FRep S D1 φ1 Fz w x v → FRep S D2 φ2 Fz w x' v
def Qfv {K : Nat → Type} (x : FV K) : Prop := ∀ c ∈ x.cells, Qbn c = true
theorem QnC {R : Cell S.K → Value → Prop} {R' : Cell S.K → Value → Prop} : ∀ {cs cs' : List (Cell S.K)} {vs : List Value}, All2 (fun c c' => ∀ v, R c v → R' c' v) cs cs' → All2 R cs vs → All2 R' cs' vs
  | _, _, _, .nil, .nil => .nil
  | _, _, _, .cons h t, .cons hv tv => .cons (h _ hv) (QnC t tv)
theorem Qo6 (h : QcJ n ren D1 φ1 D2 φ2) {s : FS} {r : List (Cell S.K)} {x x' : FV S.K × List (Cell S.K)} (hx : Q6K n (fun i => (i, 0)) s r = some x) (hx' : Q6K n ren s r = some x') : x'.2 = x.2 ∧ TrF S D1 φ1 D2 φ2 x.1 x'.1 ∧ ((∀ t, Q3n [(t, s)] = false) → Qfv x'.1) := by
  cases s with
  | c s =>
    simp only [Q6K] at hx hx'
    split at hx
    · next h1 =>
      cases hx
      split at hx'
      · next h1' =>
        cases hx'
        obtain ⟨e, t, f⟩ := QiM h h1 h1'
        refine ⟨e, fun Fz w v hv => t Fz w v hv, fun ht c hc => ?_⟩
        simp only [FV.cells, List.mem_singleton] at hc
        subst hc
        exact f (by have := ht 0; simp only [Q3n, Bool.or_eq_false_iff] at this; exact this.1)
      · cases hx'
    · cases hx
  | a ss =>
    simp only [Q6K] at hx hx'
    split at hx
    · next h1 =>
      cases hx
      split at hx'
      · next h1' =>
        cases hx'
        obtain ⟨e, t, f⟩ := QcS h h1 h1'
        refine ⟨e, fun Fz w v hv => ?_, fun ht c hc => ?_⟩
        · obtain ⟨vs, rfl, hvs⟩ := hv
          exact ⟨vs, rfl, QnC (Q2B (fun _ _ h v hv => h Fz w v hv) t) hvs⟩
        · exact f (by have := ht 0; simp only [Q3n, Bool.or_eq_false_iff] at this; exact this.1) c hc
      · cases hx'
    · cases hx
theorem QdE (h : QcJ n ren D1 φ1 D2 φ2) : ∀ {l : List (Nat × FS)} {r : List (Cell S.K)} {x x' : List (Nat × FV S.K) × List (Cell S.K)}, Q2a n (fun i => (i, 0)) l r = some x → Q2a n ren l r = some x' → x'.2 = x.2 ∧ All2 (fun a b => b.1 = a.1 ∧ TrF S D1 φ1 D2 φ2 a.2 b.2) x.1 x'.1 ∧ (Q3n l = false → ∀ c ∈ x'.1, Qfv c.2)
  | [], r, x, x', hx, hx' => by cases hx; cases hx'; exact ⟨rfl, .nil, fun _ c hc => by cases hc⟩
  | (t, s) :: l, r, x, x', hx, hx' => by
    simp only [Q2a] at hx hx'
    split at hx
    · next h1 =>
      split at hx
      · next h2 =>
        cases hx
        split at hx'
        · next h1' =>
          split at hx'
          · next h2' =>
            cases hx'
            obtain ⟨e, q, f⟩ := Qo6 h h1 h1'
            dsimp only at e q f
            subst e
            obtain ⟨e2, q2, f2⟩ := QdE h h2 h2'
            refine ⟨e2, .cons ⟨rfl, q⟩ q2, fun ht c hc => ?_⟩
            have ht' : (∀ t', Q3n [(t', s)] = false) ∧ Q3n l = false := by
              cases s <;> simp only [Q3n, Bool.or_eq_false_iff] at ht ⊢ <;> exact ⟨fun _ => ⟨ht.1, trivial⟩, ht.2⟩
            rcases List.mem_cons.1 hc with rfl | hc
            · exact f ht'.1
            · exact f2 ht'.2 c hc
          · cases hx'
        · cases hx'
      · cases hx
    · cases hx
inductive BTr (S : Sig) (D1 : Nat → Prop) (φ1 : Nat → Loc) (D2 : Nat → Prop) (φ2 : Nat → Loc) : Blk S.K → Blk S.K → Prop
  | vec (e : Nat) (l : List (S.K e)) : BTr S D1 φ1 D2 φ2 (.vec true e l) (.vec true e l)
  | var (own : Bool) (cs cs' : List (Cell S.K)) (h : All2 (Tr1 S D1 φ1 D2 φ2) cs cs') : BTr S D1 φ1 D2 φ2 (.var own cs) (.var own cs')
inductive OTr (S : Sig) (D1 : Nat → Prop) (φ1 : Nat → Loc) (D2 : Nat → Prop) (φ2 : Nat → Loc) : Option (Blk S.K) → Option (Blk S.K) → Prop
  | none : OTr S D1 φ1 D2 φ2 none none
  | some (b b' : Blk S.K) (h : BTr S D1 φ1 D2 φ2 b b') : OTr S D1 φ1 D2 φ2 (some b) (some b')
def Qlc (S : Sig) : Blk S.K → Prop
  | .vec _ e _ => Qlh S e = true
  | .var _ cs => ∀ c ∈ cs, Qbn c = true
theorem Qoh (h : QcJ n ren D1 φ1 D2 φ2) {s : BS} {r : List (Cell S.K)} {x x' : Option (Blk S.K) × List (Cell S.K)} (hx : Q1X n (fun i => (i, 0)) s r = some x) (hx' : Q1X n ren s r = some x') : x'.2 = x.2 ∧ OTr S D1 φ1 D2 φ2 x.1 x'.1 ∧
    (Q35 S [s] = false → ∀ b, x'.1 = some b → Qlc S b) ∧ (∀ b, x'.1 = some b → (∃ own cs, s = .var own cs ∧ b.own = own) ∨ ∃ e, s = .vec e) := by
  cases s with
  | gone => cases hx; cases hx'; exact ⟨rfl, .none, fun _ b h => (by cases h), fun b h => (by cases h)⟩
  | vec e0 =>
    cases r with
    | nil => simp [Q1X] at hx
    | cons c r =>
      cases c <;> simp only [Q1X, reduceCtorEq] at hx hx'
      next e l =>
        split at hx
        · next hb =>
          rw [hb] at hx'
          cases hx; cases hx'
          refine ⟨rfl, .some _ _ (.vec e l), fun ht b hbb => ?_, fun b hbb => .inr ⟨_, rfl⟩⟩
          cases hbb
          have := Q03 hb
          subst this
          simp only [Q35, Bool.or_false, Bool.not_eq_false'] at ht
          exact ht
        · cases hx
  | var own cs =>
    simp only [Q1X] at hx hx'
    split at hx
    · next h1 =>
      cases hx
      split at hx'
      · next h1' =>
        cases hx'
        obtain ⟨e, t, f⟩ := QcS h h1 h1'
        refine ⟨e, .some _ _ (.var own _ _ t), fun ht b hbb => ?_, fun b hbb => ?_⟩
        · cases hbb
          simp only [Q35, Bool.or_false] at ht
          exact f ht
        · cases hbb; exact .inl ⟨own, cs, rfl, rfl⟩
      · cases hx'
    · cases hx
theorem QkL {b : BS} {l : List BS} (h : Q35 S (b :: l) = false) : Q35 S [b] = false ∧ Q35 S l = false := by
  cases b <;> simp only [Q35, Bool.or_eq_false_iff] at h ⊢ <;> first | exact ⟨⟨h.1, trivial⟩, h.2⟩ | exact ⟨trivial, h⟩ | exact ⟨rfl, h⟩
theorem Qgs (h : QcJ n ren D1 φ1 D2 φ2) : ∀ {l : List BS} {r : List (Cell S.K)} {x x' : List (Option (Blk S.K))}, Q1m n (fun i => (i, 0)) l r = some x → Q1m n ren l r = some x' → All2 (OTr S D1 φ1 D2 φ2) x x' ∧ x'.length = l.length ∧
    (Q35 S l = false → ∀ b, some b ∈ x' → Qlc S b) ∧ (∀ (j : Nat) b, x'[j]? = some (some b) → (∃ own cs, l[j]? = some (.var own cs) ∧ b.own = own) ∨ ∃ e, l[j]? = some (.vec e))
  | [], r, x, x', hx, hx' => by cases hx; cases hx'; exact ⟨.nil, rfl, fun _ b hb => (by cases hb), fun j b hb => (by simp at hb)⟩
  | s :: l, r, x, x', hx, hx' => by
    simp only [Q1m] at hx hx'
    split at hx
    · next h1 =>
      split at hx
      · next h2 =>
        cases hx
        split at hx'
        · next h1' =>
          split at hx'
          · next h2' =>
            cases hx'
            obtain ⟨e, q, f, g⟩ := Qoh h h1 h1'
            dsimp only at e q f g
            subst e
            obtain ⟨q2, l2, f2, g2⟩ := Qgs h h2 h2'
            refine ⟨.cons q q2, by simp [l2], fun ht b hb => ?_, fun j b hb => ?_⟩
            · obtain ⟨t1, t2⟩ := QkL ht
              rcases List.mem_cons.1 hb with hb | hb
              · exact f t1 b hb.symm
              · exact f2 t2 b hb
            · cases j with
              | zero => simp only [List.getElem?_cons_zero, Option.some.injEq] at hb ⊢; exact (g b hb).imp (fun ⟨o, cs, h1, h2⟩ => ⟨o, cs, h1, h2⟩) (fun ⟨e, h⟩ => ⟨e, h⟩)
              | succ j => simpa using g2 j b (by simpa using hb)
          · cases hx'
        · cases hx'
      · cases hx
    · cases hx
theorem BTr.own {b b' : Blk S.K} (h : BTr S D1 φ1 D2 φ2 b b') : b'.own = b.own := by cases h <;> rfl
theorem BTr.cells {b b' : Blk S.K} (h : BTr S D1 φ1 D2 φ2 b b') (L : Loc) (k o : Nat) : cellsOf L b' k o ↔ cellsOf L b k o := by
  cases h with
  | vec => exact Iff.rfl
  | var own cs cs' h => simp only [cellsOf, h.len]
theorem BTr.rep {Fz : Nat → Prop} {w : World} {L : Loc} {b b' : Blk S.K} (h : BTr S D1 φ1 D2 φ2 b b') (hB : BRep S D1 φ1 Fz w L b) : BRep S D2 φ2 Fz w L b' := by
  cases h with
  | vec => exact hB
  | var own cs cs' h =>
    refine ⟨hB.1, fun j c hj => ?_⟩
    have hlt : j < cs.length := by rw [h.len]; exact (List.getElem?_eq_some_iff.1 hj).1
    obtain ⟨u, hu, hr, hf⟩ := hB.2 j cs[j] (List.getElem?_eq_getElem hlt)
    obtain ⟨c', hc', ht⟩ := h.get (List.getElem?_eq_getElem hlt)
    rw [hj] at hc'; cases hc'
    exact ⟨u, hu, ht Fz w u hr, hf⟩
theorem TRep.flat {Fz Fz' : Nat → Prop} {w : World} {e : Nat} (he : Qlh S e = true) {x : S.K e} {j : Nat} {c : Cell S.K} (hc : (S.enc e x)[j]? = some c) {v : Value} (h : TRep S Fz w c v) : TRep S Fz' w c v := by
  have : Qbn c = true := by
    unfold Sig.enc at hc
    unfold Qlh at he
    revert hc
    generalize S.toT e x = t
    revert t j
    generalize S.sh e = l at he
    clear x h
    induction l with
    | nil => intro j t hc; simp [encL] at hc
    | cons a l ih =>
      intro j t hc
      simp only [List.all_cons, Bool.and_eq_true] at he
      cases l with
      | nil =>
        cases j with
        | zero =>
          simp only [encL, List.getElem?_cons_zero, Option.some.injEq] at hc
          subst hc
          cases a <;> first | rfl | (simp at he)
        | succ j => simp [encL] at hc
      | cons b l =>
        cases j with
        | zero =>
          simp only [encL, List.getElem?_cons_zero, Option.some.injEq] at hc
          subst hc
          cases a <;> first | rfl | (simp at he)
        | succ j =>
          simp only [encL, List.getElem?_cons_succ] at hc
          exact ih he.2 _ hc
  cases h with
  | arr => simp [Qbn] at this
  | _ => constructor
theorem BRep.flat {D : Nat → Prop} {φ : Nat → Loc} {Fz Fz' : Nat → Prop} {w : World} {L : Loc} {b : Blk S.K} (hf : Qlc S b) (ho : b.own = true) (h : BRep S D φ Fz w L b) : BRep S D φ Fz' w L b := by
  cases b with
  | vec own e l =>
    simp only [Blk.own] at ho
    subst ho
    refine ⟨h.1, h.2.1, h.2.2.1, h.2.2.2.1, fun h0 => ?_⟩
    obtain ⟨g1, _, cur, el, fz, g3, ge, g4, g5, g6⟩ := h.2.2.2.2 h0
    refine ⟨g1, (fun h => by cases h), cur, el, fz, g3, ge, g4, g5, fun i x j c hx hc => ?_⟩
    obtain ⟨u, hu, ht⟩ := g6 i x j c hx hc
    exact ⟨u, hu, ht.flat hf hc⟩
  | var own cs =>
    refine ⟨h.1, fun j c hj => ?_⟩
    obtain ⟨u, hu, hr, hq⟩ := h.2 j c hj
    exact ⟨u, hu, hr.flat (hf c (List.mem_of_getElem? hj)), hq⟩
end
end Go.Ve
namespace Go.Ve
open Go.RowKit Go.Lib
set_option linter.unusedVariables false
set_option linter.unusedSimpArgs false
section
variable {S : Sig}
theorem get_append {α : Type} : ∀ (A B : List (Nat × α)) (t : Nat), get (A ++ B) t = match get A t with | some x => some x | none => get B t
  | [], B, t => rfl
  | (a, v) :: A, B, t => by
    rw [List.cons_append, Qw, Qw, get_append A B t]
    by_cases h : t = a
    · rw [if_pos h, if_pos h]
    · rw [if_neg h, if_neg h]
theorem Qlq {K : Nat → Type} : ∀ (l : List Nat) (H : List (Nat × Blk K)) (t : Nat), get (dels l H) t = if t ∈ l then none else get H t
  | [], H, t => by simp [dels]
  | i :: l, H, t => by
    rw [dels, QbC, Qlq l H t]
    by_cases h : t = i
    · subst h; simp
    · simp [h]
theorem QhC {K : Nat → Type} {ins : Option BS} {b : Blk K} {x : Option (Src K)} (h : Qdj ins b x = false) : ∀ cs, ins ≠ some (.var true cs) := by
  rintro cs rfl
  simp [Qdj] at h
theorem QbM {K : Nat → Type} {src : List (Nat × Src K)} {nx : Nat} : ∀ {blks : List (Option (Blk K))} {ins : List BS} {i j : Nat} {b : Blk K}, get (news src nx i ins blks) j = some b → ∃ q, j = nx + (i + q) ∧ blks[q]? = some (some b) ∧ Qdj ins[q]? b (get src (i + q)) = false
  | [], ins, i, j, b, h => by simp [news, get] at h
  | ob :: l, ins, i, j, b, h => by
    have shift : (∃ q, j = nx + (i + 1 + q) ∧ l[q]? = some (some b) ∧ Qdj ins.tail[q]? b (get src (i + 1 + q)) = false) → ∃ q, j = nx + (i + q) ∧ (ob :: l)[q]? = some (some b) ∧ Qdj ins[q]? b (get src (i + q)) = false := fun ⟨q, h1, h2, h3⟩ =>
      ⟨q + 1, by omega, by simpa using h2, by rw [show i + (q + 1) = i + 1 + q by omega]; rwa [List.getElem?_tail] at h3⟩
    cases ob with
    | none => rw [news] at h; exact shift (QbM h)
    | some x =>
      rw [news] at h
      split at h
      · exact shift (QbM h)
      · next hb =>
        rw [Qw] at h
        split at h
        · cases h
          exact ⟨0, by omega, rfl, by rw [Nat.add_zero, ← List.head?_eq_getElem?]; exact hb⟩
        · exact shift (QbM h)
theorem Qkk {src : List (Nat × Src S.K)} {H : List (Nat × Blk S.K)} : ∀ {ins : List BS} {blks : List (Option (Blk S.K))} {i : Nat} {l : List (Nat × Blk S.K)}, Q3d src H i ins blks = some l →
    (∀ (q : Nat) ics, ins[q]? = some (.var true ics) → ∃ cs id o old, blks[q]? = some (some (.var true cs)) ∧ get src (i + q) = some (.part id o) ∧ get H id = some (.var true old) ∧ cs.length = ics.length ∧ 1 ≤ cs.length ∧ o + cs.length ≤ old.length) ∧
    (∀ (j : Nat) b, get l j = some b → (∃ (q : Nat) (ics : List CS) (cs old : List (Cell S.K)) (o : Nat), ins[q]? = some (.var true ics) ∧ blks[q]? = some (some (.var true cs)) ∧ get src (i + q) = some (.part j o) ∧ get H j = some (.var true old) ∧ b = .var true (splice old cs o) ∧ cs.length = ics.length ∧ 1 ≤ cs.length ∧ o + cs.length ≤ old.length) ∨
      ∃ (q : Nat) (ie : Nat) (own : Bool) (e : Nat) (v : List (S.K e)), ins[q]? = some (.vec ie) ∧ blks[q]? = some (some (.vec own e v)) ∧ get src (i + q) = some (.whole j) ∧ b = .vec own e v)
  | [], blks, i, l, h => by
    simp only [Q3d, Option.some.injEq] at h
    subst h
    exact ⟨fun q ics hq => by simp at hq, fun j b hj => by simp [get] at hj⟩
  | s :: ins, ob :: blks, i, l, h => by
    have tail : ∀ {l' : List (Nat × Blk S.K)}, Q3d src H (i + 1) ins blks = some l' →
        (∀ (q : Nat) ics, ins[q]? = some (.var true ics) → ∃ cs id o old, (ob :: blks)[q + 1]? = some (some (.var true cs)) ∧ get src (i + (q + 1)) = some (.part id o) ∧ get H id = some (.var true old) ∧ cs.length = ics.length ∧ 1 ≤ cs.length ∧ o + cs.length ≤ old.length) ∧
        (∀ (j : Nat) b, get l' j = some b → (∃ (q : Nat) (ics : List CS) (cs old : List (Cell S.K)) (o : Nat), (s :: ins)[q]? = some (.var true ics) ∧ (ob :: blks)[q]? = some (some (.var true cs)) ∧ get src (i + q) = some (.part j o) ∧ get H j = some (.var true old) ∧ b = .var true (splice old cs o) ∧ cs.length = ics.length ∧ 1 ≤ cs.length ∧ o + cs.length ≤ old.length) ∨
          ∃ (q : Nat) (ie : Nat) (own : Bool) (e : Nat) (v : List (S.K e)), (s :: ins)[q]? = some (.vec ie) ∧ (ob :: blks)[q]? = some (some (.vec own e v)) ∧ get src (i + q) = some (.whole j) ∧ b = .vec own e v) := fun hr => by
      obtain ⟨g1, g2⟩ := Qkk hr
      refine ⟨fun q ics' hq => ?_, fun j b hj => ?_⟩
      · obtain ⟨cs', id', o', old', e1, e2, e3⟩ := g1 q ics' hq
        exact ⟨cs', id', o', old', by simpa using e1, by rw [show i + (q + 1) = i + 1 + q by omega]; exact e2, e3⟩
      · rcases g2 j b hj with ⟨q, ics', cs', old', o', e1, e2, e3, e4⟩ | ⟨q, ie, own, e, v, e1, e2, e3, e4⟩
        · exact .inl ⟨q + 1, ics', cs', old', o', by simpa using e1, by simpa using e2, by rw [show i + (q + 1) = i + 1 + q by omega]; exact e3, e4⟩
        · exact .inr ⟨q + 1, ie, own, e, v, by simpa using e1, by simpa using e2, by rw [show i + (q + 1) = i + 1 + q by omega]; exact e3, e4⟩
    have plain : Q3d src H (i + 1) ins blks = some l → (∀ ics, s ≠ .var true ics) →
      (∀ (q : Nat) ics, (s :: ins)[q]? = some (.var true ics) → ∃ cs id o old, (ob :: blks)[q]? = some (some (.var true cs)) ∧ get src (i + q) = some (.part id o) ∧ get H id = some (.var true old) ∧ cs.length = ics.length ∧ 1 ≤ cs.length ∧ o + cs.length ≤ old.length) := fun hr hs q ics' hq => by
        cases q with
        | zero => simp only [List.getElem?_cons_zero, Option.some.injEq] at hq; exact absurd hq (hs ics')
        | succ q => exact (tail hr).1 q ics' (by simpa using hq)
    match s with
    | .var true ics =>
      simp only [Q3d] at h
      split at h
      · next cs id o hs =>
        split at h
        · next old hg =>
          split at h
          · next r hc hr =>
            cases h
            simp only [Bool.and_eq_true] at hc
            have c1 := Q03 hc.1.1
            have c2 := Nat.le_of_ble_eq_true hc.1.2
            have c3 := Nat.le_of_ble_eq_true hc.2
            refine ⟨fun q ics' hq => ?_, fun j b hj => ?_⟩
            · cases q with
              | zero =>
                simp only [List.getElem?_cons_zero, Option.some.injEq, BS.var.injEq, true_and] at hq
                subst hq
                exact ⟨cs, id, o, old, rfl, hs, hg, c1, c2, c3⟩
              | succ q => exact (tail hr).1 q ics' (by simpa using hq)
            · rw [Qw] at hj
              split at hj
              · next he => cases hj; subst he; exact .inl ⟨0, ics, cs, old, o, rfl, rfl, hs, hg, rfl, c1, c2, c3⟩
              · exact (tail hr).2 j b hj
          · cases h
        · cases h
      · cases h
    | .var false _ => simp only [Q3d] at h; exact ⟨plain h (fun _ he => by cases he), (tail h).2⟩
    | .gone => simp only [Q3d] at h; exact ⟨plain h (fun _ he => by cases he), (tail h).2⟩
    | .vec ie =>
      simp only [Q3d] at h
      split at h
      · next own e v id hs =>
        split at h
        · next r hr =>
          cases h
          refine ⟨fun q ics' hq => ?_, fun j b hj => ?_⟩
          · cases q with
            | zero => simp at hq
            | succ q => exact (tail hr).1 q ics' (by simpa using hq)
          · rw [Qw] at hj
            split at hj
            · next he => cases hj; subst he; exact .inr ⟨0, ie, own, e, v, rfl, rfl, hs, rfl⟩
            · exact (tail hr).2 j b hj
        · cases h
      · exact ⟨plain h (fun _ he => by cases he), (tail h).2⟩
  | s :: ins, [], i, l, h => by cases s <;> (try cases ‹Bool›) <;> simp [Q3d] at h
theorem QcT {n : List BS} {ren : Nat → Nat × Nat} : ∀ {ss : List CS} {r : List (Cell S.K)} {x : List (Cell S.K) × List (Cell S.K)}, Q31 n ren ss r = some x → x.1.length = ss.length
  | [], r, x, h => by cases h; rfl
  | s :: ss, r, x, h => by
    simp only [Q31] at h
    split at h
    · split at h
      · next h2 => cases h; simp [QcT h2]
      · cases h
    · cases h
theorem Q9c {n : List BS} {ren : Nat → Nat × Nat} : ∀ {l : List BS} {r : List (Cell S.K)} {x : List (Option (Blk S.K))}, Q1m n ren l r = some x → x.length = l.length ∧ ∀ (j : Nat) b, x[j]? = some (some b) → (∃ own cs cells, l[j]? = some (.var own cs) ∧ b = .var own cells ∧ cells.length = cs.length) ∨ ∃ e l', l[j]? = some (.vec e) ∧ b = .vec true e l'
  | [], r, x, h => by cases h; exact ⟨rfl, fun j b hb => by simp at hb⟩
  | s :: l, r, x, h => by
    simp only [Q1m] at h
    split at h
    · next ob r1 h1 =>
      split at h
      · next h2 =>
        cases h
        obtain ⟨g1, g2⟩ := Q9c h2
        refine ⟨by simp [g1], fun j b hb => ?_⟩
        cases j with
        | succ j => simpa using g2 j b (by simpa using hb)
        | zero =>
          simp only [List.getElem?_cons_zero, Option.some.injEq] at hb ⊢
          cases s with
          | gone => simp [Q1X] at h1; rw [← h1.1] at hb; cases hb
          | vec e0 =>
            cases r with
            | nil => simp [Q1X] at h1
            | cons c r =>
              cases c <;> simp only [Q1X, reduceCtorEq] at h1
              split at h1
              · next hq =>
                cases h1; cases hb
                have := Q03 hq
                subst this
                exact .inr ⟨_, _, rfl, rfl⟩
              · cases h1
          | var own cs =>
            simp only [Q1X] at h1
            split at h1
            · next hc => cases h1; cases hb; exact .inl ⟨own, cs, _, rfl, rfl, QcT hc⟩
            · cases h1
      · cases h
    · cases h
theorem Qd2 {n : List BS} {ren : Nat → Nat × Nat} : ∀ {l : List BS} {r : List (Cell S.K)} {x : List (Option (Blk S.K))}, Q1m n ren l r = some x → ∀ (j : Nat) own cs, l[j]? = some (.var own cs) → ∃ cells, x[j]? = some (some (.var own cells)) ∧ cells.length = cs.length
  | [], r, x, h, j, own, cs, hj => by simp at hj
  | s :: l, r, x, h, j, own, cs, hj => by
    simp only [Q1m] at h
    split at h
    · next ob r1 h1 =>
      split at h
      · next h2 =>
        cases h
        cases j with
        | succ j => simpa using Qd2 h2 j own cs (by simpa using hj)
        | zero =>
          simp only [List.getElem?_cons_zero, Option.some.injEq] at hj
          subst hj
          simp only [Q1X] at h1
          split at h1
          · next hc => cases h1; exact ⟨_, rfl, QcT hc⟩
          · cases h1
      · cases h
    · cases h
def Back (S : Sig) (A : Q04) (cells : List (Cell S.K)) (φ0 : Nat → Loc) (Fz0 : Nat → Prop) (H0 : List (Nat × Blk S.K)) (w0 : World) (v : Value) (w' : World) : Prop :=
  ∃ res blks φ' Fz', Q0h (fun i => (i, 0)) A.outL cells = some (res, blks) ∧ Rel S (fun i => i < A.outL.blocks.length) φ' Fz' (QJ 0 blks) w' ∧ SRep S (fun i => i < A.outL.blocks.length) φ' Fz' w' (Q8e res) v ∧
    (∀ i cs cs0, A.outL.blocks[i]? = some (.var true cs) → get H0 i = some (.var true cs0) → (φ' i).b = (φ0 i).b ∧ (φ' i).o = (φ0 i).o) ∧
    (∀ i e e', A.inL.blocks[i]? = some (.vec e) → A.outL.blocks[i]? = some (.vec e') → φ' i = φ0 i) ∧
    (∀ k, Fz0 k → Fz' k) ∧ (∀ k, Fz' k → Fz0 k ∨ (∀ o, OC φ0 H0 k o) ∨ w0.heap.size ≤ k) ∧ (∀ k o, OC φ' (QJ 0 blks) k o → OC φ0 H0 k o ∨ w0.heap.size ≤ k) ∧ Chg (OC φ0 H0) w0 w'
theorem QpI {α β : Type} {R : α → β → Prop} {l : List α} {l' : List β} (h : All2 R l l') : ∀ {j : Nat} {b : β}, l'[j]? = some b → ∃ a, l[j]? = some a ∧ R a b := by
  induction h with
  | nil => intro j b h; simp at h
  | cons hr _ ih =>
    intro j b h
    cases j with
    | zero => simp at h; subst h; exact ⟨_, rfl, hr⟩
    | succ j => exact ih (by simpa using h)
theorem Qk0 : ∀ {l : List BS}, Q66 l = true → ∀ {j : Nat} {cs : List CS}, l[j]? = some (.var false cs) → False
  | [], _, j, cs, h => by simp at h
  | b :: l, hn, 0, cs, h => by simp at h; subst h; simp [Q66] at hn
  | b :: l, hn, j + 1, cs, h => by
    refine Qk0 (l := l) ?_ (by simpa using h)
    cases b with
    | var own _ => cases own <;> simp [Q66] at hn ⊢; exact hn
    | vec => simpa [Q66] using hn
    | gone => simpa [Q66] using hn
theorem QrM {D1 D2 : Nat → Prop} {φ1 φ2 : Nat → Loc} {Fz : Nat → Prop} {w : World} {l l' : List (Nat × FV S.K)} (h : All2 (fun a b => b.1 = a.1 ∧ TrF S D1 φ1 D2 φ2 a.2 b.2) l l') {v : Value} (hv : SRep S D1 φ1 Fz w (Q8e l) v) : SRep S D2 φ2 Fz w (Q8e l') v := by
  have gen : ∀ {v : Value} {l l' : List (Nat × FV S.K)}, All2 (fun a b => b.1 = a.1 ∧ TrF S D1 φ1 D2 φ2 a.2 b.2) l l' → SRep S D1 φ1 Fz w (.t (l.map (·.2))) v → SRep S D2 φ2 Fz w (.t (l'.map (·.2))) v := by
    clear hv
    rintro _ l l' h ⟨vs, rfl, hvs⟩
    refine ⟨vs, rfl, ?_⟩
    induction h generalizing vs with
    | nil => cases hvs; exact .nil
    | cons h t ih =>
      cases hvs with
      | cons a b => exact .cons (h.2 _ _ _ a) (ih _ b)
  cases h with
  | nil => exact gen .nil hv
  | cons h t =>
    cases t with
    | nil => exact h.2 _ _ _ hv
    | cons h2 t2 => exact gen (.cons h (.cons h2 t2)) hv
theorem Qq6 {D : Nat → Prop} {φ : Nat → Loc} {Fz Fz' : Nat → Prop} {w : World} {l : List (Nat × FV S.K)} (h : ∀ c ∈ l, Qfv c.2) {v : Value} (hv : SRep S D φ Fz w (Q8e l) v) : SRep S D φ Fz' w (Q8e l) v := by
  have one : ∀ {x : FV S.K} {v : Value}, Qfv x → FRep S D φ Fz w x v → FRep S D φ Fz' w x v := by
    intro x v hx hv
    cases x with
    | c c => exact CRep.flat (hx c (by simp [FV.cells])) hv
    | a cs =>
      obtain ⟨vs, rfl, hvs⟩ := hv
      refine ⟨vs, rfl, ?_⟩
      have hx' : ∀ c ∈ cs, Qbn c = true := hx
      clear hx
      induction hvs with
      | nil => exact .nil
      | cons a _ ih => exact .cons (CRep.flat (hx' _ (by simp)) a) (ih (fun c hc => hx' c (List.mem_cons_of_mem _ hc)))
  have gen : ∀ {v : Value} {l : List (Nat × FV S.K)}, (∀ c ∈ l, Qfv c.2) → SRep S D φ Fz w (.t (l.map (·.2))) v → SRep S D φ Fz' w (.t (l.map (·.2))) v := by
    clear hv
    rintro _ l h ⟨vs, rfl, hvs⟩
    refine ⟨vs, rfl, ?_⟩
    induction l generalizing vs with
    | nil => cases hvs; exact .nil
    | cons x l ih =>
      cases hvs with
      | cons a b => exact .cons (one (h x (by simp)) a) (ih (fun c hc => h c (List.mem_cons_of_mem _ hc)) _ b)
  match l, h, hv with
  | [], h, hv => exact gen h hv
  | [x], h, hv => exact one (h x (by simp)) hv
  | x :: y :: l, h, hv => exact gen h hv
end
end Go.Ve
namespace Go.Ve
open Go.RowKit Go.Lib
set_option linter.unusedVariables false
set_option linter.unusedSimpArgs false
section
variable {S : Sig}
theorem QcU (src : List (Nat × Src S.K)) (ins outs : List BS) (nx i : Nat) : (∃ ics ocs id o, ins[i]? = some (.var true ics) ∧ outs[i]? = some (.var true ocs) ∧ get src i = some (.part id o) ∧ Qam src ins outs nx i = (id, o)) ∨
    (∃ ie oe id, ins[i]? = some (.vec ie) ∧ outs[i]? = some (.vec oe) ∧ get src i = some (.whole id) ∧ Qam src ins outs nx i = (id, 0)) ∨ Qam src ins outs nx i = (nx + i, 0) := by
  unfold Qam
  split
  · next h1 h2 h3 => exact .inl ⟨_, _, _, _, h1, h2, h3, rfl⟩
  · next h1 h2 h3 => exact .inr (.inl ⟨_, _, _, h1, h2, h3, rfl⟩)
  · exact .inr (.inr rfl)
set_option maxHeartbeats 1000000 in
theorem Qou {st : St S.K} {φ : Nat → Loc} {Fz : Nat → Prop} {w : World} (hR : Rel S (fun i => i < st.nx) φ Fz st.heap w) {T : Nat → Value} {A : Q04} {ψ0 ψ : Nat → Loc} {mp : Mp S.K} {xs : List (Nat × FV S.K)} {blks0 : List (Option (Blk S.K))} {cin : List (Cell S.K)}
    (hbd0 : Q0h (fun i => (i, 0)) A.inL cin = some (xs, blks0)) (hM : QfA S (fun i => i < st.nx) φ Fz st.heap w T A.inL [] ψ0 mp xs blks0 ψ) {cells : List (Cell S.K)} {v : Value} {w' : World}
    (hBk : Back S A cells ψ (FzA φ Fz st.heap mp.fr) (QJ 0 blks0) w v w') {res' : List (Nat × FV S.K)} {bs' : List (Option (Blk S.K))} (hb' : Q0h (Qam mp.src A.inL.blocks A.outL.blocks st.nx) A.outL cells = some (res', bs'))
    (hnl : Q66 A.outL.blocks = true) {H' : List (Nat × Blk S.K)} (hu : QfE (S := S) mp.src st.nx A.inL.blocks bs' (sel (Q0R S A) (freeze mp.fr st.heap) st.heap) = some H') :
    ∃ φ'' Fz'', After S φ Fz st w φ'' Fz'' { st with heap := H', nx := st.nx + A.outL.blocks.length } w' ∧ SRep S (fun i => i < st.nx + A.outL.blocks.length) φ'' Fz'' w' (Q8e res') v := by
  obtain ⟨res, blks, φo, Fzo, hbo, hRo, hvo, hloc, hlocV, hfz1, hfz2, hown, hchg⟩ := hBk
  have hinv : ∀ i ics, A.inL.blocks[i]? = some (.var true ics) → ∃ cs0, get (QJ 0 blks0) i = some (.var true cs0) ∧ cs0.length = ics.length := fun i ics hi => by
    unfold Q0h at hbd0
    split at hbd0
    · split at hbd0
      · next h2 =>
        cases hbd0
        obtain ⟨c, h3, h4⟩ := Qd2 h2 i true ics hi
        exact ⟨c, (Q3f blks0 0 i _).2 ⟨Nat.zero_le _, h3⟩, h4⟩
      · cases hbd0
    · cases hbd0
  have hpart : ∀ i id o, get mp.src i = some (.part id o) → id < st.nx ∧ (ψ i).b = (φ id).b ∧ (ψ i).o = (φ id).o + o := fun i id o hi => by
    obtain ⟨h1, h2⟩ := hM.fits i _ hi
    exact ⟨h1, (Q6W h2).1, (Q6W h2).2⟩
  have hnotFz : ∀ k o, OC ψ (QJ 0 blks0) k o → ¬ FzA φ Fz st.heap mp.fr k := hM.rel.notFz
  have hOCin : ∀ k o, OC ψ (QJ 0 blks0) k o → OC φ st.heap k o := fun k o h => let ⟨id, b, _, h1, h2, h3⟩ := hM.taken h; ⟨id, b, h1, h2, h3⟩
  have hAf : ∃ Hf Fzf, Hf = sel (Q0R S A) (freeze mp.fr st.heap) st.heap ∧ After S φ Fz st w φ Fzf { st with heap := Hf } w ∧ (∀ k, Fzf k → FzA φ Fz st.heap mp.fr k) ∧
      (∀ j, j ∈ QN mp.src 0 A.inL.blocks → get Hf j = get st.heap j) ∧ (∀ j b, get Hf j = some b → ∃ b0, get st.heap j = some b0 ∧ (b.own = true → b0.own = true) ∧ ∀ L k o, cellsOf L b k o ↔ cellsOf L b0 k o) ∧ (Q0R S A = true → Fzf = FzA φ Fz st.heap mp.fr) ∧ (Q0R S A = false → Fzf = Fz) := by
    cases ht : Q0R S A with
    | false => exact ⟨_, Fz, rfl, After.refl hR, fun k h => .inl h, fun _ _ => rfl, fun j b h => ⟨b, h, fun h => h, fun _ _ _ => Iff.rfl⟩, fun h => (by cases h), fun _ => rfl⟩
    | true =>
      refine ⟨_, FzA φ Fz st.heap mp.fr, rfl, After.freeze hR mp.fr, fun k h => h, fun j hj => ?_, fun j b h => ?_, fun _ => rfl, fun h => (by cases h)⟩
      · rw [Q7A]
        have hnf : mem j mp.fr = false := by
          cases hm : mem j mp.fr with
          | false => rfl
          | true => exact absurd (Qau hM.apartF hj ((mem_iff _ _).1 hm)) (fun h => h)
        cases hg : get st.heap j with
        | none => rfl
        | some b => cases b <;> simp [hnf]
      · rw [Q7A] at h
        cases hg : get st.heap j with
        | none => rw [hg] at h; cases h
        | some b0 =>
          rw [hg] at h
          refine ⟨b0, rfl, ?_⟩
          cases b0 with
          | var own cs => simp only [Option.map_some, Option.some.injEq] at h; subst h; exact ⟨fun h => h, fun _ _ _ => Iff.rfl⟩
          | vec own e l =>
            simp only [Option.map_some, Option.some.injEq] at h; subst h
            exact ⟨fun h => by simp only [Blk.own, Bool.and_eq_true] at h; exact h.1, fun _ _ _ => Iff.rfl⟩
  obtain ⟨Hf, Fzf, hHf, hAf, hFzf, htk, hfo, htree, hntree⟩ := hAf
  rw [← hHf] at hu
  have hRf := hAf.rel
  obtain ⟨l, hbk, rfl⟩ : ∃ l, Q3d mp.src Hf 0 A.inL.blocks bs' = some l ∧ H' = news mp.src st.nx 0 A.inL.blocks bs' ++ (l ++ dels (QN (S := S) mp.src 0 A.inL.blocks) Hf) := by
    unfold QfE at hu
    split at hu
    · next l hl => cases hu; exact ⟨l, hl, rfl⟩
    · cases hu
  obtain ⟨hba, hbg⟩ := Qkk hbk
  let φ'' : Nat → Loc := fun j => if j < st.nx then φ j else φo (j - st.nx)
  let Fz'' : Nat → Prop := fun k => if Q0R S A then Fzo k else Fz k
  have hφlt : ∀ j, j < st.nx → φ'' j = φ j := fun j hj => if_pos hj
  have hφnew : ∀ i, φ'' (st.nx + i) = φo i := fun i => by show (if st.nx + i < st.nx then _ else _) = _; rw [if_neg (by omega), show st.nx + i - st.nx = i by omega]
  have hFz1 : ∀ k, Fzf k → Fz'' k := fun k hk => by
    show if Q0R S A then Fzo k else Fz k
    cases ht : Q0R S A with
    | true => simp only [if_true]; exact hfz1 k (hFzf k hk)
    | false => rw [hntree ht] at hk; simpa using hk
  have hFz2 : ∀ k, Fz'' k → Fzo k := fun k hk => by
    have hk' : if Q0R S A then Fzo k else Fz k := hk
    cases ht : Q0R S A with
    | true => rw [ht] at hk'; simpa using hk'
    | false => rw [ht] at hk'; exact hfz1 k (.inl (by simpa using hk'))
  have hentry : ∀ i ics ocs id o, A.inL.blocks[i]? = some (.var true ics) → A.outL.blocks[i]? = some (.var true ocs) → get mp.src i = some (.part id o) → id < st.nx ∧ (φo i).b = (φ id).b ∧ (φo i).o = (φ id).o + o := fun i ics ocs id o h1 h2 h3 => by
    obtain ⟨cs0, g1, _⟩ := hinv i ics h1
    obtain ⟨q1, q2⟩ := hloc i ocs cs0 h2 g1
    obtain ⟨p1, p2, p3⟩ := hpart i id o h3
    exact ⟨p1, q1.trans p2, q2.trans p3⟩
  have hentryV : ∀ i ie oe id, A.inL.blocks[i]? = some (.vec ie) → A.outL.blocks[i]? = some (.vec oe) → get mp.src i = some (.whole id) → id < st.nx ∧ φo i = φ id := fun i ie oe id h1 h2 h3 => by
    obtain ⟨q1, q2⟩ := hM.fits i _ h3
    exact ⟨q1, (hlocV i ie oe h1 h2).trans q2⟩
  have hren : QcJ A.outL.blocks (Qam mp.src A.inL.blocks A.outL.blocks st.nx) (fun i => i < A.outL.blocks.length) φo (fun i => i < st.nx + A.outL.blocks.length) φ'' := by
    refine ⟨fun i hi hd => ?_, fun i hi hd => ?_⟩
    · rcases QcU mp.src A.inL.blocks A.outL.blocks st.nx i with ⟨ics, ocs, id, o, h1, h2, h3, h4⟩ | ⟨ie, oe, id, h1, h2, h3, h4⟩ | h4
      · unfold QfI at hi; rw [h2] at hi; cases hi
      · obtain ⟨g1, g2⟩ := hentryV i ie oe id h1 h2 h3
        rw [h4]; exact ⟨by dsimp only; omega, by rw [hφlt id g1, g2]⟩
      · rw [h4]; exact ⟨by dsimp only; omega, hφnew i⟩
    · rcases QcU mp.src A.inL.blocks A.outL.blocks st.nx i with ⟨ics, ocs, id, o, h1, h2, h3, h4⟩ | ⟨ie, oe, id, h1, h2, h3, h4⟩ | h4
      · obtain ⟨g1, g2, g3⟩ := hentry i ics ocs id o h1 h2 h3
        rw [h4]
        refine ⟨by dsimp only; omega, fun off => ?_⟩
        rw [hφlt id g1]
        simp only [ptrV, g2, g3, Nat.add_assoc]
      · unfold isVar at hi; rw [h2] at hi; cases hi
      · rw [h4]; exact ⟨by dsimp only; omega, fun off => by rw [hφnew i, Nat.zero_add]⟩
  have hbuild : All2 (fun a b => b.1 = a.1 ∧ TrF S (fun i => i < A.outL.blocks.length) φo (fun i => i < st.nx + A.outL.blocks.length) φ'' a.2 b.2) res res' ∧ (Q3n A.outL.slots = false → ∀ c ∈ res', Qfv c.2) ∧
      All2 (OTr S (fun i => i < A.outL.blocks.length) φo (fun i => i < st.nx + A.outL.blocks.length) φ'') blks bs' ∧ (Q35 S A.outL.blocks = false → ∀ b, some b ∈ bs' → Qlc S b) ∧ bs'.length = A.outL.blocks.length ∧
      (∀ (j : Nat) b, bs'[j]? = some (some b) → (∃ own cs cells, A.outL.blocks[j]? = some (.var own cs) ∧ b = .var own cells ∧ cells.length = cs.length) ∨ ∃ e l', A.outL.blocks[j]? = some (.vec e) ∧ b = .vec true e l') := by
    unfold Q0h at hbo hb'
    split at hbo
    · next s1 =>
      split at hbo
      · next b1 =>
        cases hbo
        split at hb'
        · next s2 =>
          split at hb'
          · next b2 =>
            cases hb'
            obtain ⟨e, t, f⟩ := QdE hren s1 s2
            dsimp only at e t f
            subst e
            obtain ⟨q1, q2, q3, _⟩ := Qgs hren b1 b2
            exact ⟨t, f, q1, q3, q2, (Q9c b2).2⟩
          · cases hb'
        · cases hb'
      · cases hbo
    · cases hbo
  obtain ⟨hres, hresf, hblk, hblkf, hblen, hform⟩ := hbuild
  have hbown : ∀ (j : Nat) b, bs'[j]? = some (some b) → b.own = true := fun j b hj => by
    rcases hform j b hj with ⟨own, cs, cells, h1, h2, _⟩ | ⟨e, l', _, h2⟩
    · cases own with
      | true => rw [h2]; rfl
      | false => exact absurd (Qk0 hnl h1) (fun h => h)
    · rw [h2]; rfl
  have htwin : ∀ (q : Nat) b, bs'[q]? = some (some b) → ∃ b0, get (QJ 0 blks) q = some b0 ∧ BTr S (fun i => i < A.outL.blocks.length) φo (fun i => i < st.nx + A.outL.blocks.length) φ'' b0 b := fun q b hq => by
    obtain ⟨ob, h1, h2⟩ := QpI hblk hq
    cases h2 with
    | some b0 _ h => exact ⟨b0, (Q3f blks 0 q b0).2 ⟨Nat.zero_le _, by simpa using h1⟩, h⟩
  have kinds : ∀ j b, get (news mp.src st.nx 0 A.inL.blocks bs' ++ (l ++ dels (QN (S := S) mp.src 0 A.inL.blocks) Hf)) j = some b →
      (∃ q, j = (Qam mp.src A.inL.blocks A.outL.blocks st.nx q).1 ∧ φ'' j = φo q ∧ j < st.nx + A.outL.blocks.length ∧ bs'[q]? = some (some b) ∧ ∀ cs, A.inL.blocks[q]? ≠ some (.var true cs)) ∨
      (j < st.nx ∧ ∃ q ics cs old o, A.inL.blocks[q]? = some (.var true ics) ∧ bs'[q]? = some (some (.var true cs)) ∧ get mp.src q = some (.part j o) ∧ get Hf j = some (.var true old) ∧ b = .var true (splice old cs o) ∧ cs.length = ics.length ∧ 1 ≤ cs.length ∧ o + cs.length ≤ old.length) ∨
      (j < st.nx ∧ j ∉ QN (S := S) mp.src 0 A.inL.blocks ∧ get Hf j = some b) := fun j b h => by
    rw [get_append] at h
    split at h
    · next x hx =>
      cases h
      obtain ⟨q, h1, h2, h3⟩ := QbM hx
      rw [Nat.zero_add] at h1 h3
      have hlt := (List.getElem?_eq_some_iff.1 h2).1
      have hr : Qam mp.src A.inL.blocks A.outL.blocks st.nx q = (st.nx + q, 0) := by
        rcases QcU mp.src A.inL.blocks A.outL.blocks st.nx q with ⟨ics, ocs, id, o, g1, g2, g3, g4⟩ | ⟨ie, oe, id, g1, g2, g3, g4⟩ | g4
        · exact absurd g1 (QhC h3 ics)
        · rcases hform q b h2 with ⟨own, cs, cells, e1, e2, _⟩ | ⟨e, l', e1, e2⟩
          · rw [g2] at e1; cases e1
          · rw [g1, g3, e2] at h3; cases h3
        · exact g4
      exact .inl ⟨q, by rw [hr]; exact h1, by rw [h1]; exact hφnew q, by omega, h2, QhC h3⟩
    · rw [get_append] at h
      split at h
      · next x hx =>
        cases h
        rcases hbg j b hx with ⟨q, ics, cs, old, o, h1, h2, h3, h4, h5⟩ | ⟨q, ie, own, e, v, h1, h2, h3, h4⟩
        · rw [Nat.zero_add] at h3
          exact .inr (.inl ⟨(hpart q j o h3).1, q, ics, cs, old, o, h1, h2, h3, h4, h5⟩)
        · rw [Nat.zero_add] at h3
          rcases hform q _ h2 with ⟨own, cs, cells, e1, e2, _⟩ | ⟨e', l', e1, e2⟩
          · cases e2
          · obtain ⟨g1, g2⟩ := hentryV q ie e' j h1 e1 h3
            refine .inl ⟨q, ?_, by rw [hφlt j g1, g2], by omega, by rw [h4]; exact h2, fun cs => by rw [h1]; simp⟩
            unfold Qam; rw [h1, e1, h3]
      · rw [Qlq] at h
        split at h
        · cases h
        · next hn => exact .inr (.inr ⟨hRf.dom j b h, hn, h⟩)
  have vtaken : ∀ {q ics j o}, A.inL.blocks[q]? = some (.var true ics) → get mp.src q = some (.part j o) → j ∈ QN (S := S) mp.src 0 A.inL.blocks := fun h1 h2 =>
    Q8y (i := 0) h1 (by rw [Nat.zero_add]; exact h2) rfl (.inl ⟨_, rfl, _, _, rfl⟩)
  have cUn : ∀ j b, j ∉ QN (S := S) mp.src 0 A.inL.blocks → get Hf j = some b → ∀ k x, cellsOf (φ j) b k x → ¬ OC ψ (QJ 0 blks0) k x := fun j b hn hg k x hc ho => by
    obtain ⟨id, b', hm, h1, h2, h3⟩ := hM.taken ho
    obtain ⟨b0, g1, _, g3⟩ := hfo j b hg
    exact hR.dis id j b' b0 h1 g1 (fun e => hn (e ▸ hm)) h2 k x h3 ((g3 _ k x).1 hc)
  have cVar : ∀ {q ics j o old}, A.inL.blocks[q]? = some (.var true ics) → get mp.src q = some (.part j o) → get Hf j = some (.var true old) → ∀ k x, cellsOf (φ j) (Blk.var true old) k x → ¬ ((φ j).o + o ≤ x ∧ x < (φ j).o + o + ics.length) → ¬ OC ψ (QJ 0 blks0) k x := fun {q ics j o old} h1 h2 h3 k x hc hout ho => by
    have hj := vtaken h1 h2
    rw [htk j hj] at h3
    obtain ⟨i2, b2, hg2, ho2, hc2⟩ := ho
    have hb2 : blks0[i2]? = some (some b2) := by simpa using ((Q3f blks0 0 i2 b2).1 hg2).2
    obtain ⟨s2, bb2, hs2, hbb2, horig, hos, _⟩ := hM.orig i2 b2 hb2
    rw [ho2] at horig
    by_cases he : i2 = q
    · subst he
      obtain ⟨cs0, g1, g2⟩ := hinv i2 ics h1
      rw [hg2] at g1; cases g1
      obtain ⟨_, p2, p3⟩ := hpart i2 j o h2
      obtain ⟨_, c2, c3⟩ := hc2
      rw [p3] at c2 c3
      exact hout ⟨c2, by omega⟩
    · obtain ⟨id2, bc, e1, e2, e3, e4⟩ := horig.own hc2
      by_cases hid : id2 = j
      · subst hid
        rcases Nat.lt_or_gt_of_ne he with hlt | hlt
        · exact Q9r (i := 0) hM.nodup hlt hbb2 h1 (by rw [Nat.zero_add]; exact hs2) (by rw [Nat.zero_add]; exact h2) e1 rfl (hos ho2) (.inl ⟨_, rfl, _, _, rfl⟩)
        · exact Q9r (i := 0) hM.nodup hlt h1 hbb2 (by rw [Nat.zero_add]; exact h2) (by rw [Nat.zero_add]; exact hs2) rfl e1 (.inl ⟨_, rfl, _, _, rfl⟩) (hos ho2)
      · exact hR.dis id2 j bc _ e2 h3 hid e3 k x e4 hc
  have cNew : ∀ (q : Nat) b, bs'[q]? = some (some b) → ∀ k x, cellsOf (φo q) b k x → OC ψ (QJ 0 blks0) k x ∨ w.heap.size ≤ k := fun q b hq k x hc => by
    obtain ⟨b0, h1, h2⟩ := htwin q b hq
    exact hown k x ⟨q, b0, h1, by rw [← h2.own]; exact hbown q b hq, (h2.cells _ k x).1 hc⟩
  have vplace : ∀ {q ics cs j o}, A.inL.blocks[q]? = some (.var true ics) → bs'[q]? = some (some (Blk.var true cs)) → get mp.src q = some (.part j o) → (φo q).b = (φ j).b ∧ (φo q).o = (φ j).o + o := fun {q ics cs j o} h1 h2 h3 => by
    rcases hform q _ h2 with ⟨own, ocs, cells', g1, g2, _⟩ | ⟨e, l', _, g2⟩
    · cases g2; exact (hentry q ics ocs j o h1 g1 h3).2
    · cases g2
  have hchgFz : ∀ k x, OC ψ (QJ 0 blks0) k x → ¬ Fzf k := fun k x h hk => hnotFz k x h (hFzf k hk)
  have hDup : ∀ i, i < st.nx → i < st.nx + A.outL.blocks.length := fun i h => by omega
  have hVfz : ∀ {q ics cs j o}, A.inL.blocks[q]? = some (.var true ics) → bs'[q]? = some (some (Blk.var true cs)) → get mp.src q = some (.part j o) → 1 ≤ cs.length → ¬ Fzo (φ j).b := fun {q ics cs j o} h1 h2 h3 h4 hk => by
    obtain ⟨b0, g1, g2⟩ := htwin q _ h2
    obtain ⟨p1, p2⟩ := vplace h1 h2 h3
    have hc : cellsOf (φo q) b0 (φ j).b (φo q).o := (g2.cells _ _ _).1 ⟨p1.symm, Nat.le_refl _, by omega⟩
    exact hRo.fz q b0 g1 (by rw [← g2.own]; rfl) _ _ hc hk
  refine ⟨φ'', Fz'', ⟨⟨?_, ?_, ?_, ?_, ?_, fun x hx => ⟨hFz1 _ (hAf.fz _ (hR.inv x hx).1), (hRo.inv x hx).2⟩⟩, Nat.le_add_right _ _, rfl, hφlt, fun k hk => hFz1 k (hAf.fz k hk), ?_, ?_, hchg.mono (fun k o _ h => hOCin k o h)⟩, ?_⟩
  · intro j b hg
    rcases kinds j b hg with ⟨q, _, _, h, _⟩ | ⟨h, _⟩ | ⟨h, _⟩
    · exact h
    · show j < st.nx + A.outL.blocks.length; omega
    · show j < st.nx + A.outL.blocks.length; omega
  · intro j b hg
    rcases kinds j b hg with ⟨q, hjq, hq, _, hb, hni⟩ | ⟨hj, q, ics, cs, old, o, h1, h2, h3, h4, rfl, c1, c2, c3⟩ | ⟨hj, hn, hg⟩
    · rw [hq]
      obtain ⟨b0, g1, g2⟩ := htwin q b hb
      have hB := g2.rep (hRo.rep q b0 g1)
      show BRep S _ φ'' (fun k => if Q0R S A then Fzo k else Fz k) w' (φo q) b
      cases ht : Q0R S A with
      | true => simpa using hB
      | false =>
        simp only [Bool.false_eq_true, if_false]
        simp only [Q0R, Bool.or_eq_false_iff] at ht
        exact hB.flat (hblkf ht.2 b (List.mem_of_getElem? hb)) (hbown q b hb)
    · rw [hφlt j hj]
      obtain ⟨haddr, hcells⟩ := hRf.rep j _ h4
      obtain ⟨p1, p2⟩ := vplace h1 h2 h3
      obtain ⟨b0, g1, g2⟩ := htwin q _ h2
      have hB := g2.rep (hRo.rep q b0 g1)
      have hB2 : BRep S (fun i => i < st.nx + A.outL.blocks.length) φ'' Fz'' w' (φo q) (.var true cs) := by
        show BRep S _ φ'' (fun k => if Q0R S A then Fzo k else Fz k) w' (φo q) _
        cases ht : Q0R S A with
        | true => simpa using hB
        | false =>
          simp only [Bool.false_eq_true, if_false]
          simp only [Q0R, Bool.or_eq_false_iff] at ht
          exact hB.flat (hblkf ht.2 _ (List.mem_of_getElem? h2)) rfl
      refine ⟨haddr, fun m c hm => ?_⟩
      rw [Qf4 c3] at hm
      by_cases hin : o ≤ m ∧ m < o + cs.length
      · rw [if_pos hin] at hm
        obtain ⟨u, q1, q2, q3⟩ := hB2.2 (m - o) c hm
        rw [p1, p2, show (φ j).o + o + (m - o) = (φ j).o + m by omega] at q1 q3
        exact ⟨u, q1, q2, q3⟩
      · rw [if_neg hin] at hm
        obtain ⟨u, q1, q2, q3⟩ := hcells m c hm
        have hml := (List.getElem?_eq_some_iff.1 hm).1
        have hno := cVar h1 h3 h4 (φ j).b ((φ j).o + m) ⟨rfl, by omega, by omega⟩ (by omega)
        have := hchg.cell (φ j).b ((φ j).o + m) (lt_of_cell q1) hno
        exact ⟨u, by rw [this.1]; exact q1, q2.keep hchg hchgFz hFz1 hDup hφlt, fun ho => by rw [this.2]; exact q3 ho⟩
    · rw [hφlt j hj]
      exact (hRf.rep j b hg).keep hchg hchgFz hFz1 hDup hφlt (cUn j b hn hg)
  · intro j j' b b' hg hg' hne ho k x hc hc'
    have hNV : ∀ {q b q' ics cs old j o}, bs'[q]? = some (some b) → (∀ cs, A.inL.blocks[q]? ≠ some (.var true cs)) → cellsOf (φo q) b k x → A.inL.blocks[q']? = some (.var true ics) → bs'[q']? = some (some (Blk.var true cs)) → get mp.src q' = some (.part j o) → get Hf j = some (.var true old) → cs.length = ics.length → o + cs.length ≤ old.length → cellsOf (φ j) (Blk.var true (splice old cs o)) k x → False :=
      fun {q b q' ics cs old j o} h1 h2 h3 g1 g2 g3 g4 g5 g6 g7 => by
        obtain ⟨e1, e2, e3⟩ := g7
        rw [Q4R g6] at e3
        by_cases hin : (φ j).o + o ≤ x ∧ x < (φ j).o + o + ics.length
        · obtain ⟨p1, p2⟩ := vplace g1 g2 g3
          obtain ⟨b0, r1, r2⟩ := htwin q b h1
          obtain ⟨b0', r1', r2'⟩ := htwin q' _ g2
          have hqq : q ≠ q' := fun e => h2 ics (e ▸ g1)
          exact hRo.dis q q' b0 b0' r1 r1' hqq (by rw [← r2.own]; exact hbown q b h1) k x ((r2.cells _ k x).1 h3) ((r2'.cells _ k x).1 ⟨e1.trans p1.symm, by omega, by omega⟩)
        · have hcell : cellsOf (φ j) (Blk.var true old) k x := ⟨e1, e2, e3⟩
          rcases cNew q b h1 k x h3 with h | h
          · exact cVar g1 g3 g4 k x hcell hin h
          · have := hRf.cellLt g4 hcell; omega
    have hNO : ∀ {q b j b'}, bs'[q]? = some (some b) → cellsOf (φo q) b k x → j ∉ QN (S := S) mp.src 0 A.inL.blocks → get Hf j = some b' → cellsOf (φ j) b' k x → False := fun {q b j b'} h1 h2 h3 h4 h5 => by
      rcases cNew q b h1 k x h2 with h | h
      · exact cUn j b' h3 h4 k x h5 h
      · have := hRf.cellLt h4 h5; omega
    rcases kinds j b hg with ⟨q, hjq, hq, _, hb, hni⟩ | ⟨hj, q, ics, cs, old, o, h1, h2, h3, h4, rfl, c1, c2, c3⟩ | ⟨hj, hn, hgj⟩ <;>
      rcases kinds j' b' hg' with ⟨q', hjq', hq', _, hb', hni'⟩ | ⟨hj', q', ics', cs', old', o', h1', h2', h3', h4', rfl, c1', c2', c3'⟩ | ⟨hj', hn', hgj'⟩
    · rw [hq] at hc; rw [hq'] at hc'
      obtain ⟨b0, r1, r2⟩ := htwin q b hb
      obtain ⟨b0', r1', r2'⟩ := htwin q' b' hb'
      exact hRo.dis q q' b0 b0' r1 r1' (fun e => hne (by rw [hjq, hjq', e])) (by rw [← r2.own]; exact ho) k x ((r2.cells _ k x).1 hc) ((r2'.cells _ k x).1 hc')
    · rw [hq] at hc; rw [hφlt j' hj'] at hc'
      exact hNV hb hni hc h1' h2' h3' h4' c1' c3' hc'
    · rw [hq] at hc; rw [hφlt j' hj'] at hc'
      exact hNO hb hc hn' hgj' hc'
    · rw [hq'] at hc'; rw [hφlt j hj] at hc
      exact hNV hb' hni' hc' h1 h2 h3 h4 c1 c3 hc
    · rw [hφlt j hj] at hc; rw [hφlt j' hj'] at hc'
      obtain ⟨e1, e2, e3⟩ := hc
      obtain ⟨e1', e2', e3'⟩ := hc'
      rw [Q4R c3] at e3
      rw [Q4R c3'] at e3'
      exact hRf.dis j j' _ _ h4 h4' hne rfl k x ⟨e1, e2, e3⟩ ⟨e1', e2', e3'⟩
    · rw [hφlt j hj] at hc; rw [hφlt j' hj'] at hc'
      obtain ⟨e1, e2, e3⟩ := hc
      rw [Q4R c3] at e3
      exact hRf.dis j j' _ _ h4 hgj' hne rfl k x ⟨e1, e2, e3⟩ hc'
    · rw [hq'] at hc'; rw [hφlt j hj] at hc
      exact hNO hb' hc' hn hgj hc
    · rw [hφlt j hj] at hc; rw [hφlt j' hj'] at hc'
      obtain ⟨e1', e2', e3'⟩ := hc'
      rw [Q4R c3'] at e3'
      exact hRf.dis j j' _ _ hgj h4' hne ho k x hc ⟨e1', e2', e3'⟩
    · rw [hφlt j hj] at hc; rw [hφlt j' hj'] at hc'
      exact hRf.dis j j' _ _ hgj hgj' hne ho k x hc hc'
  · intro j b hg ho k x hc hk
    rcases kinds j b hg with ⟨q, hjq, hq, _, hb, hni⟩ | ⟨hj, q, ics, cs, old, o, h1, h2, h3, h4, rfl, c1, c2, c3⟩ | ⟨hj, hn, hgj⟩
    · rw [hq] at hc
      obtain ⟨b0, r1, r2⟩ := htwin q b hb
      exact hRo.fz q b0 r1 (by rw [← r2.own]; exact ho) k x ((r2.cells _ k x).1 hc) (hFz2 k hk)
    · rw [hφlt j hj] at hc
      have := hVfz h1 h2 h3 c2
      rw [hc.1] at hk
      exact this (hFz2 _ hk)
    · rw [hφlt j hj] at hc
      have hk' : if Q0R S A then Fzo k else Fz k := hk
      cases ht : Q0R S A with
      | false =>
        rw [ht] at hk'
        exact hRf.fz j b hgj ho k x hc (by rw [hntree ht]; simpa using hk')
      | true =>
        rw [ht] at hk'
        simp only [if_true] at hk'
        rcases hfz2 k hk' with h | h | h
        · exact hRf.fz j b hgj ho k x hc (by rw [htree ht]; exact h)
        · -- a cell of that heap block was handed over
          obtain ⟨i2, b2, hg2, ho2, hc2⟩ := h x
          have hb2 : blks0[i2]? = some (some b2) := by simpa using ((Q3f blks0 0 i2 b2).1 hg2).2
          obtain ⟨s2, bb2, hs2, hbb2, horig, hos, _⟩ := hM.orig i2 b2 hb2
          rcases hos ho2 with ⟨ics, rfl, id, o, rfl⟩ | ⟨e, rfl, hne⟩
          · obtain ⟨cs, id', o', old, r1, r2, _, _, r5, _⟩ := hba i2 ics hbb2
            rw [Nat.zero_add, hs2] at r2
            cases r2
            have := hVfz hbb2 r1 hs2 r5
            obtain ⟨_, p2, _⟩ := hpart i2 id o hs2
            obtain ⟨cs0, y1, y2⟩ := hinv i2 ics hbb2
            rw [hg2] at y1; cases y1
            rw [hc2.1, p2] at hk'
            exact this hk'
          · -- a slice takes the whole heap block
            have hvec : ∃ e' l', b2 = .vec true e' l' := by
              unfold Q0h at hbd0
              split at hbd0
              · split at hbd0
                · next y2 =>
                  cases hbd0
                  rcases (Q9c y2).2 i2 b2 hb2 with ⟨own, cs, cells', z1, z2, _⟩ | ⟨e', l', z1, z2⟩
                  · rw [hbb2] at z1; cases z1
                  · exact ⟨e', l', z2⟩
                · cases hbd0
              · cases hbd0
            obtain ⟨e', l', rfl⟩ := hvec
            exact cUn j b hn hgj k x hc ⟨i2, _, hg2, rfl, hc2⟩
        · have := hRf.cellLt hgj hc; omega
  · intro k hk
    exact hRo.lt k (hFz2 k hk)
  · intro k hk
    rcases hfz2 k (hFz2 k hk) with h | h | h
    · rcases h with h | ⟨id, hm, own, e, l', hg, hcap, rfl⟩
      · exact .inl h
      · cases own with
        | true => exact .inr (.inl fun _ => ⟨id, _, hg, rfl, hcap, rfl⟩)
        | false => exact .inl (((hR.rep id _ hg).2.2.2.2 hcap).2.1 rfl)
    · exact .inr (.inl fun o => hOCin k o (h o))
    · exact .inr (.inr h)
  · rintro k x ⟨j, b, hg, ho, hc⟩
    rcases kinds j b hg with ⟨q, hjq, hq, _, hb, hni⟩ | ⟨hj, q, ics, cs, old, o, h1, h2, h3, h4, rfl, c1, c2, c3⟩ | ⟨hj, hn, hgj⟩
    · rw [hq] at hc
      exact (cNew q b hb k x hc).imp (hOCin k x) id
    · rw [hφlt j hj] at hc
      obtain ⟨e1, e2, e3⟩ := hc
      rw [Q4R c3] at e3
      rw [htk j (vtaken h1 h3)] at h4
      exact .inl ⟨j, _, h4, rfl, e1, e2, e3⟩
    · rw [hφlt j hj] at hc
      obtain ⟨b0, g1, g2, g3⟩ := hfo j b hgj
      exact .inl ⟨j, b0, g1, g2 ho, (g3 _ k x).1 hc⟩
  · have h1 := QrM hres hvo
    show SRep S _ φ'' (fun k => if Q0R S A then Fzo k else Fz k) w' (Q8e res') v
    cases ht : Q0R S A with
    | true => simpa using h1
    | false =>
      simp only [Bool.false_eq_true, if_false]
      simp only [Q0R, Bool.or_eq_false_iff] at ht
      exact Qq6 (hresf ht.1) h1
end
end Go.Ve
namespace Go.Ve
open Go.RowKit Go.Lib
set_option linter.unusedVariables false
set_option linter.unusedSimpArgs false
inductive Occ (c0 : Code) : Code → List Item → Prop
  | root : Occ c0 c0 []
  | seqL {a b k} : Occ c0 (.seq a b) k → Occ c0 a (.code b :: k)
  | seqR {a b k} : Occ c0 (.seq a b) k → Occ c0 b k
  | condT {c a b k} : Occ c0 (.cond c a b) k → Occ c0 a k
  | condF {c a b k} : Occ c0 (.cond c a b) k → Occ c0 b k
  | block {id b k} : Occ c0 (.block id b) k → Occ c0 b (.inBlock id :: k)
  | loop {b k} : Occ c0 (.loop b) k → Occ c0 b (.inLoop b :: k)
  | scope {b k} : Occ c0 (.scope b) k → Occ c0 b (.inScope b :: k)
inductive Good (c0 : Code) : List Item → Prop
  | nil : Good c0 []
  | code {x k} : Occ c0 x k → Good c0 k → Good c0 (.code x :: k)
  | inBlock {id k} : Good c0 k → Good c0 (.inBlock id :: k)
  | inScope {b k} : Good c0 k → Good c0 (.inScope b :: k)
  | inLoop {b k} : Occ c0 (.loop b) k → Good c0 k → Good c0 (.inLoop b :: k)
theorem Occ.good {c0 x : Code} {k : List Item} (h : Occ c0 x k) : Good c0 k := by
  induction h with
  | root => exact .nil
  | seqL h ih => exact .code (.seqR h) ih
  | seqR h ih => exact ih
  | condT h ih => exact ih
  | condF h ih => exact ih
  | block h ih => exact .inBlock ih
  | loop h ih => exact .inLoop h ih
  | scope h ih => exact .inScope ih
theorem Good.exit {c0 : Code} {k : List Item} (h : Good c0 k) : ∀ {id : Nat} {k' : List Item}, exitTo id k = some k' → Good c0 k' := by
  induction h with
  | nil => intro id k' h; simp [exitTo] at h
  | code _ _ ih => intro id k' h; exact ih (by simpa [exitTo] using h)
  | @inBlock id0 k hg ih =>
    intro id k' h
    simp only [exitTo] at h
    split at h
    · cases h; exact hg
    · exact ih h
  | inScope _ ih => intro id k' h; exact ih (by simpa [exitTo] using h)
  | inLoop _ _ ih => intro id k' h; exact ih (by simpa [exitTo] using h)
def InC (id : Nat) (ops : Array Oper) (d : Bool) (k : List Item) : Code → List Item → Prop
  | .region id' ops' d', k0 => id = id' ∧ ops = ops' ∧ d = d' ∧ k = k0
  | .seq a b, k0 => InC id ops d k a (.code b :: k0) ∨ InC id ops d k b k0
  | .cond _ a b, k0 => InC id ops d k a k0 ∨ InC id ops d k b k0
  | .block i b, k0 => InC id ops d k b (.inBlock i :: k0)
  | .loop b, k0 => InC id ops d k b (.inLoop b :: k0)
  | .scope b, k0 => InC id ops d k b (.inScope b :: k0)
  | _, _ => False
theorem Occ.inC {c0 x : Code} {k : List Item} (h : Occ c0 x k) {id : Nat} {ops : Array Oper} {d : Bool} {k' : List Item} (hi : InC id ops d k' x k) : InC id ops d k' c0 [] := by
  induction h with
  | root => exact hi
  | seqL _ ih => exact ih (.inl hi)
  | seqR _ ih => exact ih (.inr hi)
  | condT _ ih => exact ih (.inl hi)
  | condF _ ih => exact ih (.inr hi)
  | block _ ih => exact ih hi
  | loop _ ih => exact ih hi
  | scope _ ih => exact ih hi
theorem Q3N : ∀ (x : Code) (id : Nat) (k : List Item), id ∉ rids x → Q1s id x k = none
  | .region id' _ _, id, k, h => by
    simp only [rids, List.mem_singleton] at h
    simp only [Q1s]
    rw [Qfd (fun e => h e.symm)]; rfl
  | .seq a b, id, k, h => by
    simp only [rids, List.mem_append, not_or] at h
    simp only [Q1s, Q3N a id _ h.1, Q3N b id _ h.2]
  | .cond _ a b, id, k, h => by
    simp only [rids, List.mem_append, not_or] at h
    simp only [Q1s, Q3N a id _ h.1, Q3N b id _ h.2]
  | .block _ b, id, k, h => by simp only [rids] at h; simp only [Q1s, Q3N b id _ h]
  | .loop b, id, k, h => by simp only [rids] at h; simp only [Q1s, Q3N b id _ h]
  | .scope b, id, k, h => by simp only [rids] at h; simp only [Q1s, Q3N b id _ h]
  | .skip, _, _, _ | .rangeFunc .., _, _, _ | .exit _, _, _, _ | .label _, _, _, _ | .goto _, _, _, _ | .ret, _, _, _ | .refuse _, _, _, _ => rfl
theorem Q7w : ∀ {x : Code} {id : Nat} {ops : Array Oper} {d : Bool} {k k0 : List Item}, InC id ops d k x k0 → id ∈ rids x
  | .region .., _, _, _, _, _, h => by simp only [rids, List.mem_singleton]; exact h.1
  | .seq a b, _, _, _, _, _, h => by simp only [rids, List.mem_append]; exact h.imp Q7w Q7w
  | .cond _ a b, _, _, _, _, _, h => by simp only [rids, List.mem_append]; exact h.imp Q7w Q7w
  | .block _ b, _, _, _, _, _, h => Q7w (x := b) h
  | .loop b, _, _, _, _, _, h => Q7w (x := b) h
  | .scope b, _, _, _, _, _, h => Q7w (x := b) h
  | .skip, _, _, _, _, _, h | .rangeFunc .., _, _, _, _, _, h | .exit _, _, _, _, _, _, h | .label _, _, _, _, _, _, h | .goto _, _, _, _, _, _, h | .ret, _, _, _, _, _, h | .refuse _, _, _, _, _, _, h => h.elim
theorem Q7h : ∀ (x : Code) {id : Nat} {ops : Array Oper} {d : Bool} {k k0 : List Item}, InC id ops d k x k0 → (rids x).Nodup → Q1s id x k0 = some (ops, d, k)
  | .region .., _, _, _, _, _, h, _ => by obtain ⟨rfl, rfl, rfl, rfl⟩ := h; simp only [Q1s, Nat.beq_refl, cond_true]
  | .seq a b, id, _, _, _, _, h, hn => by
    simp only [rids, List.nodup_append] at hn
    simp only [Q1s]
    rcases h with h | h
    · rw [Q7h a h hn.1]
    · rw [Q3N a id _ (fun hm => hn.2.2 id hm id (Q7w h) rfl), Q7h b h hn.2.1]
  | .cond _ a b, id, _, _, _, _, h, hn => by
    simp only [rids, List.nodup_append] at hn
    simp only [Q1s]
    rcases h with h | h
    · rw [Q7h a h hn.1]
    · rw [Q3N a id _ (fun hm => hn.2.2 id hm id (Q7w h) rfl), Q7h b h hn.2.1]
  | .block _ b, _, _, _, _, _, h, hn => by simp only [Q1s]; exact Q7h b h hn
  | .loop b, _, _, _, _, _, h, hn => by simp only [Q1s]; exact Q7h b h hn
  | .scope b, _, _, _, _, _, h, hn => by simp only [Q1s]; exact Q7h b h hn
  | .skip, _, _, _, _, _, h, _ | .rangeFunc .., _, _, _, _, _, h, _ | .exit _, _, _, _, _, _, h, _ | .label _, _, _, _, _, _, h, _ | .goto _, _, _, _, _, _, h, _ | .ret, _, _, _, _, _, h, _ | .refuse _, _, _, _, _, _, h, _ => h.elim
theorem Good.find {c0 : Code} {id : Nat} {ops : Array Oper} {d : Bool} {k : List Item} (h : Good c0 (.code (.region id ops d) :: k)) (hn : Q15 (rids c0) = true) : Q1s id c0 [] = some (ops, d, k) := by
  cases h with
  | code ho _ => exact Q7h c0 (ho.inC ⟨rfl, rfl, rfl, rfl⟩) (Qh8 hn)
def Goes (P : Program) (b : Frame) (todo : List Item) (a : Act) (w : World) (R : Value → World → Prop) : Prop :=
  ∀ cs, ∃ v w' fr, R v w' ∧ Steps P (lone (b.at a todo) cs w) (lone fr cs w') ∧ fr.fn = b.fn ∧ fr.leaving P w' (.returned v)
theorem Goes.step {P : Program} {b : Frame} {todo todo' : List Item} {a a' : Act} {w w' : World} {R : Value → World → Prop} (hs : ∀ cs, step P (lone (b.at a todo) cs w) = .next (lone (b.at a' todo') cs w')) (h : Goes P b todo' a' w' R) : Goes P b todo a w R :=
  fun cs => let ⟨v, w2, fr, h1, h2, h3⟩ := h cs; ⟨v, w2, fr, h1, .head (hs cs) h2, h3⟩
structure Ctx (S : Sig) (A : Q04) (φ0 : Nat → Loc) (Fz0 : Nat → Prop) (H0 : List (Nat × Blk S.K)) (w0 : World) (φ : Nat → Loc) (Fz : Nat → Prop) (st : St S.K) (w : World) : Prop where
  nx : A.inL.blocks.length ≤ st.nx
  entry : ∀ i own cs, A.inL.blocks[i]? = some (.var own cs) → (φ i).b = (φ0 i).b ∧ (φ i).o = (φ0 i).o
  entryV : ∀ i e, A.inL.blocks[i]? = some (.vec e) → φ i = φ0 i
  fz : ∀ k, Fz0 k → Fz k
  fzb : ∀ k, Fz k → Fz0 k ∨ (∀ o, OC φ0 H0 k o) ∨ w0.heap.size ≤ k
  own : ∀ k o, OC φ st.heap k o → OC φ0 H0 k o ∨ w0.heap.size ≤ k
  chg : Chg (OC φ0 H0) w0 w
theorem Ctx.after {S : Sig} {A : Q04} {φ0 φ φ' : Nat → Loc} {Fz0 Fz Fz' : Nat → Prop} {H0 : List (Nat × Blk S.K)} {w0 w w' : World} {st st' : St S.K} (h : Ctx S A φ0 Fz0 H0 w0 φ Fz st w) (h' : After S φ Fz st w φ' Fz' st' w') : Ctx S A φ0 Fz0 H0 w0 φ' Fz' st' w' where
  nx := Nat.le_trans h.nx h'.nx
  entry := fun i own cs hi => by
    have hlt : i < st.nx := Nat.lt_of_lt_of_le (List.getElem?_eq_some_iff.1 hi).1 h.nx
    rw [h'.agree i hlt]; exact h.entry i own cs hi
  entryV := fun i e hi => by
    have hlt : i < st.nx := Nat.lt_of_lt_of_le (List.getElem?_eq_some_iff.1 hi).1 h.nx
    rw [h'.agree i hlt]; exact h.entryV i e hi
  fz := fun k hk => h'.fz k (h.fz k hk)
  fzb := fun k hk => by
    rcases h'.fzb k hk with hk | hk | hk
    · exact h.fzb k hk
    · rcases Nat.lt_or_ge k w0.heap.size with hlt | hge
      · exact .inr (.inl fun o => (h.own k o (hk o)).resolve_right (by omega))
      · exact .inr (.inr hge)
    · exact .inr (.inr (Nat.le_trans h.chg.size hk))
  own := fun k o hk => by
    rcases h'.own k o hk with hk | hk
    · exact h.own k o hk
    · exact .inr (Nat.le_trans h.chg.size hk)
  chg := h.chg.trans' h'.chg (fun k o hk ho => by
    rcases h.own k o ho with h | h
    · exact h
    · omega)
section
variable (P : Program) (E : Env)
def Q2Y (f m : Nat) (d : TL E.S.K (jobT E.ann ⟨f, m, none⟩)) (r : TL E.S.K (outT E.ann f m)) : Prop :=
  ∀ A, E.ann f m = some A → ∃ xs blks0, Q0h (fun i => (i, 0)) A.inL (encL (jobT E.ann ⟨f, m, none⟩) d) = some (xs, blks0) ∧
    ∀ (φ : Nat → Loc) (Fz : Nat → Prop) (w : World) (vs : Array Value), Rel E.S (fun i => i < A.inL.blocks.length) φ Fz (QJ 0 blks0) w → Qal E.S (fun i => i < A.inL.blocks.length) φ Fz w (slotsOf xs) vs → (E.ext f m ≠ none → vs.size = A.inL.slots.length) →
      Calls P f vs w fun e w' => ∃ v, e = .returned v ∧ Back E.S A (encL (outT E.ann f m) r) φ Fz (QJ 0 blks0) w v w'
def Qjw (f m ρ : Nat) (d : TL E.S.K (jobT E.ann ⟨f, m, some ρ⟩)) (r : TL E.S.K (outT E.ann f m)) : Prop :=
  ∀ A L c ops draw k, E.ann f m = some A → get A.labels ρ = some L → A.fn.body = some c → Q1s ρ c [] = some (ops, draw, k) →
    ∃ st, build L (encL (jobT E.ann ⟨f, m, some ρ⟩) d) = some st ∧ A.inL.blocks.length ≤ L.blocks.length ∧
      ∀ (φ0 : Nat → Loc) (Fz0 : Nat → Prop) (H0 : List (Nat × Blk E.S.K)) (w0 : World) (φ : Nat → Loc) (Fz : Nat → Prop) (b : Frame) (a : Act) (w : World), Inv E.S φ Fz st a.tmps w → Ctx E.S A φ0 Fz0 H0 w0 φ Fz st w →
        (∀ i cs, A.inL.blocks[i]? = some (.var true cs) → ∃ cs0, get H0 i = some (.var true cs0)) → (∀ i cs0, get H0 i = some (.var true cs0) → ∃ cs, A.inL.blocks[i]? = some (.var true cs)) →
        b.fn = f → b.kind = .normal → a.defers = [] → A.fn.ntmps ≤ a.tmps.size →
        Goes P b (.code (.region ρ ops draw) :: k) a w (fun v w' => Back E.S A (encL (outT E.ann f m) r) φ0 Fz0 H0 w0 v w')
structure Q8a (orc : Orc E) : Prop where
  call : ∀ f m d r, orc ⟨f, m, none⟩ d = some r → Q2Y P E f m d r
  label : ∀ f m ρ d r, orc ⟨f, m, some ρ⟩ d = some r → Qjw P E f m ρ d r
end
section
variable {P : Program} {E : Env} {R : Type} {φ : Nat → Loc} {Fz : Nat → Prop} {st : St E.S.K} {w : World}
theorem Qfg {K : Nat → Type} : ∀ (l : List (FV K)) (i t : Nat), get (Q8n i l) t = if i ≤ t then (l[t - i]?).map SV.v else none
  | [], i, t => by simp [Q8n, get]
  | x :: l, i, t => by
    rw [Q8n, Qw, Qfg l (i + 1) t]
    by_cases h : t = i
    · subst h; simp
    · rw [if_neg h]
      by_cases h2 : i ≤ t
      · rw [if_pos h2, if_pos (by omega), show t - i = (t - (i + 1)) + 1 by omega, List.getElem?_cons_succ]
      · rw [if_neg h2, if_neg (by omega)]
theorem Qak {K : Nat → Type} : ∀ {l : List (Nat × FV K)} {t : Nat} {v : SV K}, get (slotsOf l) t = some v → ∃ x, (t, x) ∈ l ∧ v = .v x
  | [], t, v, h => by simp [slotsOf, get] at h
  | (t0, x) :: l, t, v, h => by
    rw [slotsOf, Qw] at h
    split at h
    · next he => cases h; subst he; exact ⟨x, by simp, rfl⟩
    · obtain ⟨y, h1, h2⟩ := Qak h; exact ⟨y, List.mem_cons_of_mem _ h1, h2⟩
theorem QeZ {D : Nat → Prop} : ∀ {cp : List (Nat × Nat)}, Q47 D cp → All2 (FRep E.S D φ Fz w) (Qhe cp) (Q3e φ cp)
  | [], _ => .nil
  | (i, o) :: l, h => .cons ⟨h.1, rfl⟩ (QeZ h.2)
theorem Qq7 (hE : Q0r P E) {orc : Orc E} (hO : Q8a P E orc) {a : Act} (hI : Inv E.S φ Fz st a.tmps w) {g m : Nat} {xs : List (FV E.S.K)} {vs : List Value} (hxs : All2 (FRep E.S (fun i => i < st.nx) φ Fz w) xs vs) {k : Kn E R} {r : R}
    (h : Q9h E orc st g m xs k = some r) {next : Value → World → Prop} (hG : Goal E.S φ Fz st w k r next) :
    (∃ A, E.ann g m = some A) ∧ Calls P g vs.toArray w fun e w' => ∃ v, e = .returned v ∧ next v w' := by
  unfold Q9h at h
  split at h
  · cases h
  · next A hA =>
    refine ⟨⟨A, hA⟩, ?_⟩
    have hsz : E.ext g m ≠ none → vs.toArray.size = A.inL.slots.length := fun hx => by
      cases ha : QiF E g m A xs.length with
      | false => rw [ha] at h; cases h
      | true =>
        unfold QiF at ha
        split at ha
        · next hn => exact absurd hn hx
        · rw [List.size_toArray, ← hxs.len, Q03 ha]
    cases ha : QiF E g m A xs.length with
    | false => rw [ha] at h; cases h
    | true =>
    rw [ha] at h
    dsimp only [chk] at h
    split at h
    · cases h
    · next cells mp hcol =>
      split at h
      · cases h
      · next d hd =>
        unfold sbind at h
        split at h
        · next rr horc =>
          dsimp only at h
          split at h
          · cases h
          · next res' bs' hb' =>
            split at h
            · cases h
            · next H' hu =>
              have hnl : Q66 A.outL.blocks = true := by
                cases hn : Q66 A.outL.blocks with
                | true => rfl
                | false => rw [hn] at hu; cases hu
              rw [hnl] at hu
              obtain ⟨xs0, blks0, hb0, hcall⟩ := hO.call g m d rr horc A hA
              rw [QaJ _ _ _ hd] at hb0
              have hT : ∀ t v, get (Q8n 0 xs) t = some v → SRep E.S (fun i => i < st.nx) φ Fz w v ((vs[t]?).getD undef) := fun t v hv => by
                rw [Qfg, if_pos (Nat.zero_le _), Nat.sub_zero] at hv
                cases hx : xs[t]? with
                | none => rw [hx] at hv; cases hv
                | some x =>
                  rw [hx] at hv; cases hv
                  obtain ⟨u, h1, h2⟩ := hxs.get hx
                  rw [h1]; exact h2
              obtain ⟨ψ, hM⟩ := Qe8 (st := { st with slots := Q8n 0 xs }) hI.rel (T := fun t => (vs[t]?).getD undef) hT (ψ0 := φ) (fun i s hi => by simp [get] at hi) hcol hb0
              refine (hcall ψ _ w vs.toArray hM.rel (fun t v hv => ?_) hsz).mono ?_
              · obtain ⟨x, h1, rfl⟩ := Qak hv
                have := hM.slots t x h1
                rw [Array.getD_eq_getD_getElem?, List.getElem?_toArray]
                exact this
              · rintro e w' ⟨v, rfl, hBk⟩
                obtain ⟨φ'', Fz'', hAf, hs⟩ := Qou hI.rel hb0 hM hBk hb' hnl hu
                exact ⟨v, rfl, hG _ _ _ _ _ _ h hAf hs⟩
        · cases h
theorem QjP (hE : Q0r P E) {orc : Orc E} (hO : Q8a P E orc) {a : Act} (hI : Inv E.S φ Fz st a.tmps w) {site : Nat → Nat} {o : Oper} {k : Kn E R} {r : R} (h : dop E orc site st o k = some r) {next : Act → World → Prop} {Q : Exit → Act → World → Prop}
    (hG : Goal E.S φ Fz st w k r (fun x w' => next (a.put o.dst x) w')) : o.wp P a w next Q := by
  by_cases hc : ∃ f as_ ts, o.op = .call { callee := .value f, args := as_, argTypes := ts }
  · obtain ⟨f, as_, ts, heq⟩ := hc
    unfold dop at h
    rw [heq] at h
    dsimp only at h
    split at h
    · next g cp xs hf hx =>
      have hfv := QS hI hf
      have hxs := Q3l hI hx
      have hall := hxs.append (QeZ (E := E) (φ := φ) (Fz := Fz) (w := w) hfv.1)
      obtain ⟨⟨A, hA⟩, hcall⟩ := Qq7 hE hO hI hall h hG
      obtain ⟨hfn, hname, c, hbody, _⟩ := hE.ann g _ A hA
      have hname' : ¬ A.fn.name = "runtime.NumGoroutine" := by simpa using hname
      unfold Oper.wp
      have hrun : (execOp a.eval o).run P w = .ok (.enter g (as_.toList.map a.eval ++ Q3e φ cp).toArray) w := by
        have hmap : (as_.map a.eval : Array Value) ++ (Q3e φ cp).toArray = (as_.toList.map a.eval ++ Q3e φ cp).toArray := by apply Array.ext'; simp
        simp only [execOp, heq, resolve]
        rw [hfv.2]
        simp [Deferred.ofValue, invoke, callFunc, hfn, hname', hbody, hmap]
      rw [hrun]
      show Calls P g _ w _
      refine hcall.mono ?_
      rintro e w' ⟨v, rfl, hn⟩
      exact hn
    · cases h
  · exact QrT hE hI (fun f as_ ts he => hc ⟨f, as_, ts, he⟩) h hG
end
end Go.Ve
namespace Go.Ve
open Go.RowKit Go.Lib
set_option linter.unusedVariables false
set_option linter.unusedSimpArgs false
theorem Q6k (T : Array Value) (d : Nat) : T.getD d undef = (T[d]?).getD undef := by rw [Array.getD_eq_getD_getElem?]
section
variable {P : Program} {E : Env} {R : Type} {φ : Nat → Loc} {Fz : Nat → Prop} {st : St E.S.K} {w : World} {a : Act}
theorem QhO {ops : Array Oper} {T : Array Value} {j d : Nat} {oj : Oper} (hj : ops[j]? = some oj) (hd : oj.dst = some d) :
    (∀ b, T.getD d undef = .bool b → yielded ops T j = some b) ∧ (T.getD d undef = undef → yielded ops T j = none) := by
  rw [Q6k]
  unfold yielded
  simp only [hj, Option.bind_some, hd]
  cases h : T[d]? with
  | none => exact ⟨fun b hb => by simp [undef] at hb, fun _ => rfl⟩
  | some v =>
    simp only [Option.getD_some]
    exact ⟨fun b hb => by rw [hb], fun hb => by rw [hb]; rfl⟩
theorem Inv.lit (hI : Inv E.S φ Fz st a.tmps w) {d : Nat} {b : Bool} (h : a.tmps.getD d undef = .bool b) : Inv E.S φ Fz { st with slots := put st.slots d (.v (.c (.lit b))) } a.tmps w where
  rel := hI.rel
  slots := fun t v hv => by
    rw [get_put] at hv
    split at hv
    · next he => cases hv; subst he; rw [h]; exact TRep.lit b
    · exact hI.slots t v hv
theorem Qqp (hI : Inv E.S φ Fz st a.tmps w) {ops : Array Oper} {o : Oper} {yes no : St E.S.K → Option R} {r : R} (h : Qbs E st ops o yes no = some r) :
    (Region.wanted o (yielded ops a.tmps) = true ∧ ∃ sl, yes { st with slots := sl } = some r ∧ Inv E.S φ Fz { st with slots := sl } a.tmps w) ∨
    (Region.wanted o (yielded ops a.tmps) = false ∧ ∃ sl, no { st with slots := sl } = some r ∧ Inv E.S φ Fz { st with slots := sl } a.tmps w) := by
  unfold Qbs at h
  unfold Region.wanted
  split at h
  · next hg => rw [hg]; exact .inl ⟨rfl, st.slots, h, hI⟩
  · next j want hg =>
    rw [hg]
    dsimp only
    split at h
    · next oj hj =>
      split at h
      · next d hd =>
        obtain ⟨hy1, hy2⟩ := QhO (T := a.tmps) hj hd
        split at h
        · next b hb =>
          have hs := hI.slots d _ hb
          have hv : a.tmps.getD d undef = .bool b := by
            have hs' : TRep _ _ _ _ _ := hs
            generalize a.tmps.getD d undef = u at hs'
            cases hs'
            rfl
          rw [hy1 b hv]
          have hl := hI.lit hv
          cases b <;> cases want <;> dsimp only [sif] at h
          · exact .inl ⟨by decide, _, h, hl⟩
          · exact .inr ⟨by decide, _, h, hl⟩
          · exact .inr ⟨by decide, _, h, hl⟩
          · exact .inl ⟨by decide, _, h, hl⟩
        · next b hb =>
          have hs := hI.slots d _ hb
          have hv : a.tmps.getD d undef = .bool b := by
            have hs' : TRep _ _ _ _ _ := hs
            generalize a.tmps.getD d undef = u at hs'
            cases hs'
            rfl
          rw [hy1 b hv]
          cases b <;> cases want <;> dsimp only at h
          · exact .inl ⟨by decide, _, h, hI⟩
          · exact .inr ⟨by decide, _, h, hI⟩
          · exact .inr ⟨by decide, _, h, hI⟩
          · exact .inl ⟨by decide, _, h, hI⟩
        · next hb =>
          obtain ⟨vs, hv, hall⟩ := hI.slots d _ hb
          have : vs = [] := List.eq_nil_of_length_eq_zero hall.len.symm
          subst this
          rw [hy2 hv]
          exact .inr ⟨by cases want <;> decide, _, h, hI⟩
        · cases h
      · cases h
    · cases h
theorem Qlm {φ' : Nat → Loc} {Fz' : Nat → Prop} {st' st2 : St E.S.K} {w' : World} (hI : Inv E.S φ Fz st a.tmps w) (hA : After E.S φ Fz st w φ' Fz' st' w') {n : Nat} (hn : n ≤ a.tmps.size) {d : Option Nat} {v : SV E.S.K} {x : Value}
    (hx : SRep E.S (fun i => i < st'.nx) φ' Fz' w' v x) (h : Q4i st' n d v = some st2) : Inv E.S φ' Fz' st2 (a.put d x).tmps w' ∧ st2.heap = st'.heap ∧ st2.nx = st'.nx := by
  unfold Q4i at h
  have hsl : Qal E.S (fun i => i < st'.nx) φ' Fz' w' st'.slots a.tmps := by
    intro t u hu
    rw [hA.slots] at hu
    exact hA.srep hI.rel (hI.slots t u hu)
  split at h
  · cases h; exact ⟨⟨hA.rel, hsl⟩, rfl, rfl⟩
  · next d =>
    cases hb : Nat.blt d n with
    | false => rw [hb] at h; cases h
    | true =>
      rw [hb] at h
      cases h
      have hlt : d < a.tmps.size := by
        have := Nat.le_of_ble_eq_true hb
        omega
      refine ⟨⟨hA.rel, fun t u hu => ?_⟩, rfl, rfl⟩
      dsimp only at hu
      rw [get_put] at hu
      rw [Q6k]
      split at hu
      · next he => cases hu; subst he; simpa [Act.put, hlt] using hx
      · next he =>
        have := hsl t u hu
        rw [Q6k] at this
        simpa [Act.put, Array.getElem?_setIfInBounds_ne (Ne.symm he)] using this
end
def Kept (S : Sig) {R : Type} (A : Q04) (φ0 : Nat → Loc) (Fz0 : Nat → Prop) (H0 : List (Nat × Blk S.K)) (w0 : World) (a : Act) (k : St S.K → Option R) (r : R) (φ : Nat → Loc) (Fz : Nat → Prop) (a' : Act) (w' : World) : Prop :=
  ∃ st', k st' = some r ∧ Inv S φ Fz st' a'.tmps w' ∧ Ctx S A φ0 Fz0 H0 w0 φ Fz st' w' ∧ a'.defers = a.defers ∧ a'.tmps.size = a.tmps.size
theorem Q6G (a : Act) (d : Option Nat) (v : Value) : (a.put d v).tmps.size = a.tmps.size := by cases d <;> simp [Act.put]
theorem Q7V (a : Act) (d : Option Nat) (v : Value) : (a.put d v).defers = a.defers := by cases d <;> rfl
theorem Ctx.slots {S : Sig} {A : Q04} {φ0 φ : Nat → Loc} {Fz0 Fz : Nat → Prop} {H0 : List (Nat × Blk S.K)} {w0 w : World} {st st' : St S.K} (h : Ctx S A φ0 Fz0 H0 w0 φ Fz st w) (h1 : st'.heap = st.heap) (h2 : st'.nx = st.nx) : Ctx S A φ0 Fz0 H0 w0 φ Fz st' w :=
  ⟨by rw [h2]; exact h.nx, h.entry, h.entryV, h.fz, h.fzb, by rw [h1]; exact h.own, h.chg⟩
theorem Qkc {α : Type} {x y : Option α} {r : α} (h : sboth x y = some r) : x = some r ∧ y = some r := by
  unfold sboth at h
  split at h
  · next e => exact ⟨e.trans h, h⟩
  · cases h
theorem QoV {P : Program} {w : World} {t e : TypeId} (hu : P.underlying t = some (.slice e)) (d : Nat) (a : Option Addr) (n c : Nat) : (Op.equalIn (d + 1) t (.slice a n c) (.slice none 0 0)).run P w = .ok a.isNone w := by
  cases a <;> simp [Op.equalIn, run_underlying hu]
theorem Qoz {P : Program} {E : Env} {φ : Nat → Loc} {Fz : Nat → Prop} {st : St E.S.K} {w : World} {a : Act} (hE : Q0r P E) (hI : Inv E.S φ Fz st a.tmps w) {o : Oper} {n neg : Bool} (h : QiT E st o = some (n, neg)) :
    ∃ b : Bool, (b = true → n = true) ∧ ∀ {next : Act → World → Prop} {Q : Exit → Act → World → Prop}, next (a.put o.dst (.bool (if b then !neg else neg))) w → o.wp P a w next Q := by
  unfold QiT at h
  split at h
  · next op t x y q heq =>
    split at h
    · next ca hs hx hy =>
      obtain ⟨e, hk⟩ : ∃ e, kindOf E t = .slice e := by
        cases hk : kindOf E t <;> rw [hk] at hs <;> first | (cases hs; done) | exact ⟨_, rfl⟩
      have hu := (QiP hE hk).2.2.1 e rfl
      have hvx := QS hI hx
      have hvy : a.eval y = .slice none 0 0 := QS hI hy
      have key : ∀ n', Qmi E st ca = some n' → ∃ ad len cap, a.eval x = .slice ad len cap ∧ (ad.isNone = true → n' = true) := fun n' hn => by
        unfold Qmi at hn
        split at hn
        · next e' l =>
          cases hn
          have hv : TRep _ _ _ _ _ := hvx
          generalize a.eval x = u at hv
          cases hv with
          | arr _ _ ad cap vals hcap hnn =>
            exact ⟨ad, _, _, rfl, fun h => by rw [hnn (Option.isNone_iff_eq_none.1 h)]; rfl⟩
        · next id =>
          split at hn
          · next own e' l hg =>
            cases hn
            obtain ⟨_, hv⟩ := hvx
            refine ⟨_, _, _, hv, fun h => ?_⟩
            obtain ⟨h1, h2, h3, _, h4⟩ := hI.rel.rep id _ hg
            by_cases hc : (φ id).cap = 0
            · cases l with
              | nil => rfl
              | cons x l => rw [hc] at h3; exact absurd h3 (by simp)
            · rw [(h4 hc).1] at h; cases h
          · cases hn
        · next id lo hi =>
          split at hn
          · next own e' l hg =>
            cases hn
            obtain ⟨_, h1, h2, h3, ad, hv, h4⟩ := hvx
            refine ⟨ad, _, _, hv, fun h => ?_⟩
            apply Nat.ble_eq_true_of_le
            by_cases hc : (φ id).cap = lo
            · omega
            · obtain ⟨_, _, _, _, g4⟩ := hI.rel.rep id _ hg
              rw [h4.1 hc] at h
              by_cases hc0 : (φ id).cap = 0
              · omega
              · rw [(g4 hc0).1] at h; cases h
          · cases hn
        · cases hn
      split at h
      · next n' hn =>
        cases h
        obtain ⟨ad, len, cap, hv, hi⟩ := key _ hn
        have hr := Qib (P := P) (w := w) (t := t) (a := a.eval x) (b := a.eval y) (.inr (.inr (.inr (.inl ⟨_, _, _, hv⟩)))) (by rw [hv, hvy, Qbq]; exact QoV hu _ ad len cap)
        refine ⟨ad.isNone, hi, fun {next Q} hn => wp_v (by simp only [execOp, heq]) (Q3x (x0 := x) (y0 := y) (by rw [hv]; simp) (by rw [hv]; simp) hr.1) ?_⟩
        cases hq : ad.isNone <;> rw [hq] at hn <;> exact hn
      · next n' hn =>
        cases h
        obtain ⟨ad, len, cap, hv, hi⟩ := key _ hn
        have hr := Qib (P := P) (w := w) (t := t) (a := a.eval x) (b := a.eval y) (.inr (.inr (.inr (.inl ⟨_, _, _, hv⟩)))) (by rw [hv, hvy, Qbq]; exact QoV hu _ ad len cap)
        refine ⟨ad.isNone, hi, fun {next Q} hn => wp_v (by simp only [execOp, heq]) (Q3x (x0 := x) (y0 := y) (by rw [hv]; simp) (by rw [hv]; simp) hr.2) ?_⟩
        cases hq : ad.isNone <;> rw [hq] at hn <;> exact hn
      · cases h
    · cases h
  · cases h
theorem Qcz {P : Program} {E : Env} {R : Type} (hE : Q0r P E) {orc : Orc E} (hO : Q8a P E orc) {A : Q04} {φ0 : Nat → Loc} {Fz0 : Nat → Prop} {H0 : List (Nat × Blk E.S.K)} {w0 : World} {ops : Array Oper} {k : St E.S.K → Option R} {r : R} :
    ∀ (l : List Nat) {st : St E.S.K} {φ : Nat → Loc} {Fz : Nat → Prop} {a : Act} {w : World}, Q4P E orc A ops l st k = some r → Inv E.S φ Fz st a.tmps w → Ctx E.S A φ0 Fz0 H0 w0 φ Fz st w → A.fn.ntmps ≤ a.tmps.size →
    ∀ {a0 : Act}, a.defers = a0.defers → a.tmps.size = a0.tmps.size → wpOps P ops (fun e a' w' => e = .normal ∧ ∃ φ' Fz', Kept E.S A φ0 Fz0 H0 w0 a0 k r φ' Fz' a' w') l a w
  | [], st, φ, Fz, a, w, h, hI, hC, hn, a0, hd, hs => ⟨rfl, φ, Fz, st, h, hI, hC, hd, hs⟩
  | i :: rest, st, φ, Fz, a, w, h, hI, hC, hn, a0, hd, hs => by
    unfold Q4P at h
    unfold wpOps
    split at h
    · next o ho =>
      rw [ho]
      dsimp only
      rcases Qqp hI h with ⟨hw, sl, h, hI⟩ | ⟨hw, sl, h, hI⟩
      · rw [hw, if_pos rfl]
        split at h
        · next n neg hnt =>
          obtain ⟨b, hb, hwp⟩ := Qoz hE hI hnt
          have hgo : ∀ c : Bool, (match Q4i { st with slots := sl } A.fn.ntmps o.dst (.v (.c (.lit c))) with | some st'' => Q4P E orc A ops rest st'' k | none => none) = some r → c = (if b then !neg else neg) → o.wp P a w (fun a' w' => wpOps P ops (fun e a' w' => e = .normal ∧ ∃ φ' Fz', Kept E.S A φ0 Fz0 H0 w0 a0 k r φ' Fz' a' w') rest a' w') (fun e a' w' => e = .normal ∧ ∃ φ' Fz', Kept E.S A φ0 Fz0 H0 w0 a0 k r φ' Fz' a' w') := fun c hc he => by
            refine hwp ?_
            split at hc
            · next st2 hset =>
              obtain ⟨hI2, e1, e2⟩ := Qlm (x := .bool c) (v := .v (.c (.lit c))) hI (After.refl hI.rel) hn (show TRep E.S Fz w (.lit c) (.bool c) from TRep.lit c) hset
              rw [← he]
              exact Qcz hE hO rest hc hI2 ((hC.slots (st' := { st with slots := sl }) rfl rfl).slots e1 e2) (by rw [Q6G]; exact hn) (by rw [Q7V]; exact hd) (by rw [Q6G]; exact hs)
            · cases hc
          refine .inl ?_
          cases b with
          | true =>
            rw [hb rfl] at h
            exact hgo _ (Qkc h).1 rfl
          | false =>
            cases n with
            | true => exact hgo _ (Qkc h).2 rfl
            | false => exact hgo _ h rfl
        · refine .inl (QjP hE hO hI h ?_)
          intro v st' φ' Fz' x w' hk hA hx
          dsimp only at hk
          split at hk
          · next st2 hset =>
            obtain ⟨hI2, e1, e2⟩ := Qlm hI hA hn hx hset
            exact Qcz hE hO rest hk hI2 (((hC.slots (st' := { st with slots := sl }) rfl rfl).after hA).slots e1 e2) (by rw [Q6G]; exact hn) (by rw [Q7V]; exact hd) (by rw [Q6G]; exact hs)
          · cases hk
      · rw [hw, if_neg (by decide)]
        split at h
        · next st2 hset =>
          obtain ⟨hI2, e1, e2⟩ := Qlm (x := undef) hI (After.refl hI.rel) hn (v := .t []) ⟨[], rfl, .nil⟩ hset
          exact Qcz hE hO rest h hI2 ((hC.slots (st' := { st with slots := sl }) rfl rfl).slots e1 e2) (by rw [Q6G]; exact hn) (by rw [Q7V]; exact hd) (by rw [Q6G]; exact hs)
        · cases h
    · cases h
theorem QmJ {P : Program} {E : Env} {R : Type} (hE : Q0r P E) {orc : Orc E} (hO : Q8a P E orc) {A : Q04} {φ0 : Nat → Loc} {Fz0 : Nat → Prop} {H0 : List (Nat × Blk E.S.K)} {w0 : World} {ops : Array Oper} {k : St E.S.K → Option R} {r : R} {id : Nat}
    {st : St E.S.K} {φ : Nat → Loc} {Fz : Nat → Prop} {a : Act} {w : World} (h : Q4P E orc A ops (List.range ops.size) st k = some r) (hI : Inv E.S φ Fz st a.tmps w) (hC : Ctx E.S A φ0 Fz0 H0 w0 φ Fz st w) (hn : A.fn.ntmps ≤ a.tmps.size)
    {b : Frame} {todo : List Item} {Res : Value → World → Prop} (hk : ∀ φ' Fz' a' w', Kept E.S A φ0 Fz0 H0 w0 a k r φ' Fz' a' w' → Goes P b todo a' w' Res) : Goes P b (.code (.region id ops false) :: todo) a w Res := by
  intro cs
  obtain ⟨e, a', w', ⟨rfl, φ', Fz', hK⟩, harr⟩ := wp_region (id := id) (Qcz hE hO _ h hI hC hn rfl rfl) b todo cs
  obtain ⟨v, w2, fr, h1, h2, h3⟩ := hk φ' Fz' a' w' hK cs
  exact ⟨v, w2, fr, h1, Steps.trans harr h2, h3⟩
end Go.Ve
namespace Go.Ve
open Go.RowKit Go.Lib
set_option linter.unusedVariables false
set_option linter.unusedSimpArgs false
def resF (T : Array Value) : ResultVar → Sem Value
  | .tmp t => pure (T.getD t undef)
  | .cell a t => do loadVar t (← asAddr (T.getD a undef))
theorem Qo5 (fn : Func) (T : Array Value) : results fn T = (do let vs ← fn.results.mapM (resF T); pure (if h : vs.size = 1 then vs[0] else .tuple vs)) := rfl
section
variable {P : Program} {E : Env} {φ : Nat → Loc} {Fz : Nat → Prop} {st : St E.S.K} {w : World} {a : Act}
theorem Qd0 {R : Type} (hE : Q0r P E) (hI : Inv E.S φ Fz st a.tmps w) : ∀ (l : List ResultVar) {i : Nat} {k : List (Nat × SV E.S.K) → Option R} {r : R}, Q7a E st i l k = some r →
    ∃ xs vs, k xs = some r ∧ (l.mapM (resF a.tmps)).run P w = .ok vs w ∧ vs.length = l.length ∧ ∀ t v, get xs t = some v → i ≤ t ∧ SRep E.S (fun i => i < st.nx) φ Fz w v ((vs[t - i]?).getD undef)
  | [], i, k, r, h => ⟨[], [], h, by simp, rfl, fun t v h => by simp [get] at h⟩
  | .tmp t0 :: l, i, k, r, h => by
    unfold Q7a at h
    split at h
    · next v hv =>
      obtain ⟨xs, vs, h1, h2, h3, h4⟩ := Qd0 hE hI l h
      refine ⟨_, a.tmps.getD t0 undef :: vs, h1, by simp only [List.mapM_cons, resF, Sem.run_bind, Sem.run_pure, Result.andThen_ok, h2], by simp [h3], fun t u hu => ?_⟩
      rw [Qw] at hu
      split at hu
      · next he =>
        cases hu; subst he
        exact ⟨Nat.le_refl _, by simpa using hI.slots t0 _ hv⟩
      · obtain ⟨g1, g2⟩ := h4 t u hu
        refine ⟨by omega, ?_⟩
        rw [show t - i = (t - (i + 1)) + 1 by omega, List.getElem?_cons_succ]
        exact g2
    · cases h
  | .cell a0 ty :: l, i, k, r, h => by
    unfold Q7a at h
    split at h
    · next td p htd hp =>
      obtain ⟨b, o, cs, vs0, hpv, hk, hlen, hall, hcell⟩ := Qlv hI.rel (hI.slots a0 _ hp) h
      obtain ⟨ti, d, z, h1, h2, h3, h4, h5, _⟩ := (hE.tt ty td htd).ex
      have hl : vs0.length = ti.size := by rw [← hall.len, hlen, h3]
      obtain ⟨hag, hone⟩ := QgE h1 h2 hl hcell
      have hstep : ∀ x, (loadVar ty ⟨b, o, none⟩).run P w = .ok x w → (resF a.tmps (.cell a0 ty)).run P w = .ok x w := fun x hx => by
        simp only [resF, Sem.run_bind]
        rw [hpv]
        simp only [asAddr, Sem.run_pure, Result.andThen_ok, hx]
      have fin : ∀ (sv : SV E.S.K) (x : Value), Q7a E st (i + 1) l (fun r => k ((i, sv) :: r)) = some r → (loadVar ty ⟨b, o, none⟩).run P w = .ok x w → SRep E.S (fun i => i < st.nx) φ Fz w sv x →
          ∃ xs vs, k xs = some r ∧ ((ResultVar.cell a0 ty :: l).mapM (resF a.tmps)).run P w = .ok vs w ∧ vs.length = (ResultVar.cell a0 ty :: l).length ∧ ∀ t v, get xs t = some v → i ≤ t ∧ SRep E.S (fun i => i < st.nx) φ Fz w v ((vs[t - i]?).getD undef) := fun sv x hk hx hs => by
        obtain ⟨xs, vs, h1, h2, h3, h4⟩ := Qd0 hE hI l hk
        refine ⟨_, x :: vs, h1, by simp only [List.mapM_cons, Sem.run_bind, hstep x hx, Sem.run_pure, Result.andThen_ok, h2], by simp [h3], fun t u hu => ?_⟩
        rw [Qw] at hu
        split at hu
        · next he =>
          cases hu; subst he
          exact ⟨Nat.le_refl _, by simpa using hs⟩
        · obtain ⟨g1, g2⟩ := h4 t u hu
          refine ⟨by omega, ?_⟩
          rw [show t - i = (t - (i + 1)) + 1 by omega, List.getElem?_cons_succ]
          exact g2
      split at hk
      · next hagg => exact fin _ _ hk (hag (h5 ▸ hagg)) ⟨vs0, rfl, hall⟩
      · next hagg =>
        split at hk
        · next x =>
          obtain ⟨v0, hv0⟩ : ∃ v0, vs0 = [v0] := by
            have := hall.len
            match vs0, this with
            | [v0], _ => exact ⟨v0, rfl⟩
          subst hv0
          cases hall with
          | cons hx _ => exact fin _ _ hk (hone (h5 ▸ hagg) v0 rfl) hx
        · cases hk
    · cases h
theorem Qiz {K : Nat → Type} {R : FV K → Value → Prop} {T : Nat → Value} : ∀ {xs : List (Nat × FV K)} {vs : List Value} {sl : List (Nat × FS)} {i : Nat}, xs.map (·.1) = sl.map (·.1) → picks i sl = true → xs.length = vs.length →
    (∀ t x, (t, x) ∈ xs → R x (T t)) → (∀ j v, vs[j]? = some v → T (i + j) = v) → All2 R (xs.map (·.2)) vs
  | [], [], _, _, _, _, _, _, _ => .nil
  | [], _ :: _, _, _, _, _, h, _, _ => by cases h
  | _ :: _, [], _, _, _, _, h, _, _ => by cases h
  | (t, x) :: xs, v :: vs, [], i, hn, _, _, _, _ => by cases hn
  | (t, x) :: xs, v :: vs, (t', s) :: sl, i, hn, hp, hl, hR, hT => by
    simp only [List.map_cons, List.cons.injEq] at hn
    simp only [picks, Bool.and_eq_true] at hp
    have e1 := Q03 hp.1
    have e2 := hn.1
    refine .cons ?_ (Qiz hn.2 hp.2 (by simpa using hl) (fun t x h => hR t x (List.mem_cons_of_mem _ h)) (fun j v hj => by
      have := hT (j + 1) v (by simpa using hj)
      rwa [show i + (j + 1) = i + 1 + j by omega] at this))
    have := hT 0 v rfl
    rw [Nat.add_zero, ← e1, ← e2] at this
    exact this ▸ hR t x (by simp)
theorem Qcx {K : Nat → Type} : ∀ {l : List BS} {i j : Nat} {s : Src K}, get (Q3v i l) j = some s → ∃ q, j = i + q ∧ ((∃ own cs, l[q]? = some (.var own cs) ∧ s = .part j 0) ∨ ∃ e, l[q]? = some (.vec e) ∧ s = .whole j)
  | [], i, j, s, h => by simp [Q3v, get] at h
  | .var own cs :: l, i, j, s, h => by
    rw [Q3v, Qw] at h
    split at h
    · next he => cases h; subst he; exact ⟨0, rfl, .inl ⟨own, cs, rfl, rfl⟩⟩
    · obtain ⟨q, h1, h2⟩ := Qcx h; exact ⟨q + 1, by omega, by simpa using h2⟩
  | .vec e :: l, i, j, s, h => by
    rw [Q3v, Qw] at h
    split at h
    · next he => cases h; subst he; exact ⟨0, rfl, .inr ⟨e, rfl, rfl⟩⟩
    · obtain ⟨q, h1, h2⟩ := Qcx h; exact ⟨q + 1, by omega, by simpa using h2⟩
  | .gone :: l, i, j, s, h => by
    rw [Q3v] at h
    · obtain ⟨q, h1, h2⟩ := Qcx h; exact ⟨q + 1, by omega, by simpa using h2⟩
    · intro own cs he; cases he
    · intro e he; cases he
theorem Qi1 {K : Nat → Type} {b : BS} {l : List BS} {i j : Nat} (h : i < j) : get (Q3v (K := K) i (b :: l)) j = get (Q3v (K := K) (i + 1) l) j := by
  cases b with
  | var o c => rw [Q3v, Qw, if_neg (by omega)]
  | vec e => rw [Q3v, Qw, if_neg (by omega)]
  | gone => rw [Q3v] <;> (intros; simp_all)
theorem QeX {K : Nat → Type} : ∀ {l : List BS} {i q : Nat} {own : Bool} {cs : List CS}, l[q]? = some (.var own cs) → get (Q3v (K := K) i l) (i + q) = some (.part (i + q) 0)
  | [], i, q, own, cs, h => by simp at h
  | b :: l, i, 0, own, cs, h => by simp at h; subst h; simp [Q3v, Qw]
  | b :: l, i, q + 1, own, cs, h => by
    have ih := QeX (K := K) (l := l) (i := i + 1) (q := q) (by simpa using h)
    rw [show i + 1 + q = i + (q + 1) by omega] at ih
    rw [Qi1 (by omega)]; exact ih
theorem Qee {K : Nat → Type} : ∀ {l : List BS} {i q : Nat} {e : Nat}, l[q]? = some (.vec e) → get (Q3v (K := K) i l) (i + q) = some (.whole (i + q))
  | [], i, q, e, h => by simp at h
  | b :: l, i, 0, e, h => by simp at h; subst h; simp [Q3v, Qw]
  | b :: l, i, q + 1, e, h => by
    have ih := Qee (K := K) (l := l) (i := i + 1) (q := q) (by simpa using h)
    rw [show i + 1 + q = i + (q + 1) by omega] at ih
    rw [Qi1 (by omega)]; exact ih
def QaT (ins : List BS) (φ : Nat → Loc) (i : Nat) : Loc := match ins[i]? with | some (.vec _) => φ i | _ => ⟨some ⟨(φ i).b, (φ i).o, none⟩, 0, 0, 0⟩
theorem QlZ {A : Q04} {φ0 : Nat → Loc} {Fz0 : Nat → Prop} {H0 : List (Nat × Blk E.S.K)} {w0 : World} (hC : Ctx E.S A φ0 Fz0 H0 w0 φ Fz st w) (bs : List BS) :
    Fits (fun i => i < st.nx) φ Fz w bs (QaT A.inL.blocks φ) (Q3v (K := E.S.K) 0 A.inL.blocks) := fun i s hs => by
  obtain ⟨q, h1, h2⟩ := Qcx hs
  have := hC.nx
  rw [Nat.zero_add] at h1
  subst h1
  rcases h2 with ⟨own, cs, h2, rfl⟩ | ⟨e, h2, rfl⟩
  · have hlt := (List.getElem?_eq_some_iff.1 h2).1
    exact ⟨by show i < st.nx; omega, by unfold QaT; rw [h2]; rfl⟩
  · have hlt := (List.getElem?_eq_some_iff.1 h2).1
    exact ⟨by show i < st.nx; omega, by unfold QaT; rw [h2]⟩
theorem Qir {ins : List BS} {φ : Nat → Loc} {i : Nat} {own : Bool} {cs : List CS} (h : ins[i]? = some (.var own cs)) : (QaT ins φ i).b = (φ i).b ∧ (QaT ins φ i).o = (φ i).o := by
  unfold QaT; rw [h]; exact ⟨rfl, rfl⟩
theorem QhG {ins : List BS} {φ : Nat → Loc} {i : Nat} {e : Nat} (h : ins[i]? = some (.vec e)) : QaT ins φ i = φ i := by
  unfold QaT; rw [h]
theorem QnR (hE : Q0r P E) {f m : Nat} {A : Q04} (hA : E.ann f m = some A) (hI : Inv E.S φ Fz st a.tmps w) {φ0 : Nat → Loc} {Fz0 : Nat → Prop} {H0 : List (Nat × Blk E.S.K)} {w0 : World} (hC : Ctx E.S A φ0 Fz0 H0 w0 φ Fz st w)
    (hH0 : ∀ i cs0, get H0 i = some (.var true cs0) → ∃ cs, A.inL.blocks[i]? = some (.var true cs)) {r : TL E.S.K (outT E.ann f m)} (h : dRet E f m A st = some r) :
    ∃ v, (results A.fn a.tmps).run P w = .ok v w ∧ Back E.S A (encL (outT E.ann f m) r) φ0 Fz0 H0 w0 v w := by
  unfold dRet at h
  obtain ⟨xs, vs, hk, hrun, hlen, hT⟩ := Qd0 (P := P) hE hI _ h
  split at hk
  · next cells mp hcol =>
    split at hk
    · next x hb =>
      obtain ⟨res, blks⟩ := x
      cases hp : (picks 0 A.outL.slots && Nat.beq A.outL.slots.length A.fn.results.toList.length) with
      | false => rw [hp] at hb; cases hb
      | true =>
        rw [hp] at hb
        dsimp only [chk] at hb
        simp only [Bool.and_eq_true] at hp
        have hcnt := Q03 hp.2
        obtain ⟨ψ, hM⟩ := Qe8 (st := { st with slots := xs }) hI.rel (T := fun t => (vs[t]?).getD undef) (fun t v hv => (hT t v hv).2) (QlZ hC A.outL.blocks) hcol hb
        have hAf := After.freeze hI.rel mp.fr
        have hC' := hC.after hAf
        have hnames : res.length = vs.length := by
          have := congrArg List.length hM.names
          simp only [List.length_map] at this
          omega
        refine ⟨if h : vs.toArray.size = 1 then vs.toArray[0] else .tuple vs.toArray, ?_, ?_⟩
        · rw [Qo5]
          simp only [Sem.run_bind, Array.mapM_eq_mapM_toList, map_eq_pure_bind, hrun, Sem.run_pure, Result.andThen_ok]
        · rw [QaJ _ _ _ hk]
          have hall : All2 (FRep E.S (fun i => i < A.outL.blocks.length) ψ (FzA φ Fz st.heap mp.fr) w) (res.map (·.2)) vs :=
            Qiz hM.names hp.1 hnames hM.slots (fun j v hj => by rw [Nat.zero_add, hj]; rfl)
          refine ⟨res, blks, ψ, FzA φ Fz st.heap mp.fr, hb, hM.rel, ?_, ?_, ?_, hC'.fz, hC'.fzb, ?_, hC.chg⟩
          · match res, vs, hnames, hall with
            | [], [], _, _ => exact ⟨[], rfl, .nil⟩
            | [(t, x)], [v], _, .cons hx _ => exact hx
            | (t, x) :: y :: l, v :: v' :: l', _, hall => 
              refine ⟨v :: v' :: l', ?_, hall⟩
              rw [dif_neg (by simp)]
          · intro i cs cs0 ho hi
            obtain ⟨ics, hin⟩ := hH0 i cs0 hi
            have hg := QeX (K := E.S.K) (i := 0) hin
            rw [Nat.zero_add] at hg
            obtain ⟨_, e⟩ := hM.pre i _ hg
            rw [e]
            obtain ⟨p1, p2⟩ := Qir (φ := φ) hin
            rw [p1, p2]
            exact hC.entry i true ics hin
          · intro i e e' hi ho
            have hg := Qee (K := E.S.K) (i := 0) hi
            rw [Nat.zero_add] at hg
            obtain ⟨_, e⟩ := hM.pre i _ hg
            rw [e, QhG hi]
            exact hC.entryV i _ hi
          · intro k o hk
            obtain ⟨id, bb, _, g1, g2, g3⟩ := hM.taken hk
            exact hC.own k o ⟨id, bb, g1, g2, g3⟩
    · cases hk
  · cases hk
theorem Qqh (hE : Q0r P E) {orc : Orc E} (hO : Q8a P E orc) {f m id : Nat} {A : Q04} {L : Lay} (hA : E.ann f m = some A) (hL : get A.labels id = some L) (hI : Inv E.S φ Fz st a.tmps w) {φ0 : Nat → Loc} {Fz0 : Nat → Prop} {H0 : List (Nat × Blk E.S.K)} {w0 : World} (hC : Ctx E.S A φ0 Fz0 H0 w0 φ Fz st w)
    (hH1 : ∀ i cs, A.inL.blocks[i]? = some (.var true cs) → ∃ cs0, get H0 i = some (.var true cs0)) (hH0 : ∀ i cs0, get H0 i = some (.var true cs0) → ∃ cs, A.inL.blocks[i]? = some (.var true cs))
    {r : TL E.S.K (outT E.ann f m)} (h : Qfz E orc f m id A L st = some r) {c : Code} (hc : A.fn.body = some c) {ops : Array Oper} {draw : Bool} {k : List Item} (hf : Q1s id c [] = some (ops, draw, k))
    {b : Frame} (hb : b.fn = f) (hk : b.kind = .normal) (hd : a.defers = []) (hn : A.fn.ntmps ≤ a.tmps.size) :
    Goes P b (.code (.region id ops draw) :: k) a w (fun v w' => Back E.S A (encL (outT E.ann f m) r) φ0 Fz0 H0 w0 v w') := by
  unfold Qfz at h
  split at h
  · next cells mp hcol =>
    split at h
    · next d hdec =>
      obtain ⟨st', hbuild, hlen, hgo⟩ := hO.label f m id d r h A L c ops draw k hA hL hc hf
      rw [QaJ _ _ _ hdec] at hbuild
      unfold build at hbuild
      split at hbuild
      · next xs bs hb0 =>
        cases hbuild
        obtain ⟨ψ, hM⟩ := Qe8 (st := st) hI.rel (T := fun t => a.tmps.getD t undef) hI.slots (QlZ hC L.blocks) hcol hb0
        have hC' := hC.after (After.freeze hI.rel mp.fr)
        refine hgo φ0 Fz0 H0 w0 ψ (FzA φ Fz st.heap mp.fr) b a w ⟨hM.rel, fun t v hv => ?_⟩ ⟨hlen, ?_, ?_, hC'.fz, hC'.fzb, ?_, hC.chg⟩ hH1 hH0 hb hk hd hn
        · obtain ⟨x, h1, rfl⟩ := Qak hv
          exact hM.slots t x h1
        · intro i own cs hi
          have hg := QeX (K := E.S.K) (i := 0) hi
          rw [Nat.zero_add] at hg
          obtain ⟨_, e⟩ := hM.pre i _ hg
          rw [e]
          obtain ⟨p1, p2⟩ := Qir (φ := φ) hi
          rw [p1, p2]
          exact hC.entry i own cs hi
        · intro i e hi
          have hg := Qee (K := E.S.K) (i := 0) hi
          rw [Nat.zero_add] at hg
          obtain ⟨_, e⟩ := hM.pre i _ hg
          rw [e, QhG hi]
          exact hC.entryV i _ hi
        · intro k' o hk'
          obtain ⟨id', bb, _, g1, g2, g3⟩ := hM.taken hk'
          exact hC.own k' o ⟨id', bb, g1, g2, g3⟩
      · cases hbuild
    · cases h
  · cases h
end
end Go.Ve
namespace Go.Ve
open Go.RowKit Go.Lib
set_option linter.unusedVariables false
set_option linter.unusedSimpArgs false
def Qfw (P : Program) (E : Env) : Prop :=
  ∀ {R : Type} {orc : Orc E}, Q8a P E orc → ∀ {A : Q04} {φ0 : Nat → Loc} {Fz0 : Nat → Prop} {H0 : List (Nat × Blk E.S.K)} {w0 : World} {ops : Array Oper} {k : St E.S.K → Option R} {r : R} {id : Nat}
    {st : St E.S.K} {φ : Nat → Loc} {Fz : Nat → Prop} {a : Act} {w : World}, Qap E orc A ops (List.range ops.size) [] st k = some r → Inv E.S φ Fz st a.tmps w → Ctx E.S A φ0 Fz0 H0 w0 φ Fz st w → A.fn.ntmps ≤ a.tmps.size →
    ∀ {b : Frame} {todo : List Item} {Res : Value → World → Prop}, (∀ φ' Fz' a' w', Kept E.S A φ0 Fz0 H0 w0 a k r φ' Fz' a' w' → Goes P b todo a' w' Res) → Goes P b (.code (.region id ops true) :: todo) a w Res
section
variable {P : Program} {E : Env} (hE : Q0r P E) (hDr : Qfw P E) {orc : Orc E} (hO : Q8a P E orc)
include hE hDr hO
theorem QgC {R : Type} {A : Q04} {φ0 : Nat → Loc} {Fz0 : Nat → Prop} {H0 : List (Nat × Blk E.S.K)} {w0 : World} {ops : Array Oper} {k : St E.S.K → Option R} {r : R} {id : Nat} {draw : Bool}
    {st : St E.S.K} {φ : Nat → Loc} {Fz : Nat → Prop} {a : Act} {w : World} (h : QaA E orc A ops draw st k = some r) (hI : Inv E.S φ Fz st a.tmps w) (hC : Ctx E.S A φ0 Fz0 H0 w0 φ Fz st w) (hn : A.fn.ntmps ≤ a.tmps.size)
    {b : Frame} {todo : List Item} {Res : Value → World → Prop} (hk : ∀ φ' Fz' a' w', Kept E.S A φ0 Fz0 H0 w0 a k r φ' Fz' a' w' → Goes P b todo a' w' Res) : Goes P b (.code (.region id ops draw) :: todo) a w Res := by
  cases draw with
  | false => exact QmJ hE hO h hI hC hn hk
  | true => exact hDr hO h hI hC hn hk
theorem Q4A {f m : Nat} {A : Q04} (hA : E.ann f m = some A) {c : Code} (hc : A.fn.body = some c) (hnd : Q15 (rids c) = true) {φ0 : Nat → Loc} {Fz0 : Nat → Prop} {H0 : List (Nat × Blk E.S.K)} {w0 : World}
    (hH1 : ∀ i cs, A.inL.blocks[i]? = some (.var true cs) → ∃ cs0, get H0 i = some (.var true cs0)) (hH0 : ∀ i cs0, get H0 i = some (.var true cs0) → ∃ cs, A.inL.blocks[i]? = some (.var true cs))
    {b : Frame} (hb : b.fn = f) (hk : b.kind = .normal) {r : TL E.S.K (outT E.ann f m)} : ∀ (n : Nat) {todo : List Item} {st : St E.S.K} {φ : Nat → Loc} {Fz : Nat → Prop} {a : Act} {w : World}, run E orc f m A n todo st = some r → Good c todo → Inv E.S φ Fz st a.tmps w →
      Ctx E.S A φ0 Fz0 H0 w0 φ Fz st w → a.defers = [] → A.fn.ntmps ≤ a.tmps.size → Goes P b todo a w (fun v w' => Back E.S A (encL (outT E.ann f m) r) φ0 Fz0 H0 w0 v w')
  | 0, todo, st, φ, Fz, a, w, h, _, _, _, _, _ => by cases h
  | n + 1, [], st, φ, Fz, a, w, h, hg, hI, hC, hd, hn => by
    obtain ⟨v, h1, h2⟩ := QnR hE hA hI hC hH0 h
    exact fun cs => ⟨v, w, _, h2, .one step_end, rfl, rfl, hd, hk, A.fn, by rw [show (b.at a []).fn = b.fn from rfl] at *; exact hb ▸ (hE.ann f m A hA).1, h1⟩
  | n + 1, it :: k, st, φ, Fz, a, w, h, hg, hI, hC, hd, hn => by
    unfold run at h
    split at h
    · -- ret
      obtain ⟨v, h1, h2⟩ := QnR hE hA hI hC hH0 h
      exact fun cs => ⟨v, w, _, h2, .one step_ret, rfl, rfl, hd, hk, A.fn, hb ▸ (hE.ann f m A hA).1, h1⟩
    · -- skip
      cases hg with
      | code _ hg => exact Goes.step (fun cs => step_skip) (Q4A hA hc hnd hH1 hH0 hb hk n h hg hI hC hd hn)
    · -- label
      cases hg with
      | code _ hg => exact Goes.step (fun cs => step_label) (Q4A hA hc hnd hH1 hH0 hb hk n h hg hI hC hd hn)
    · -- inBlock
      cases hg with
      | inBlock hg => exact Goes.step (fun cs => step_inBlock) (Q4A hA hc hnd hH1 hH0 hb hk n h hg hI hC hd hn)
    · -- inScope
      cases hg with
      | inScope hg => exact Goes.step (fun cs => step_inScope) (Q4A hA hc hnd hH1 hH0 hb hk n h hg hI hC hd hn)
    · -- seq
      cases hg with
      | code ho hg => exact Goes.step (fun cs => step_seq) (Q4A hA hc hnd hH1 hH0 hb hk n h (.code (.seqL ho) (Occ.seqL ho).good) hI hC hd hn)
    · -- cond
      next x cT cF =>
      cases hg with
      | code ho hg =>
        have both : ∀ (t : Bool), a.eval x = .bool t → run E orc f m A n (.code (if t then cT else cF) :: k) st = some r → Goes P b (.code (.cond x cT cF) :: k) a w (fun v w' => Back E.S A (encL (outT E.ann f m) r) φ0 Fz0 H0 w0 v w') := fun t ht h =>
          Goes.step (fun cs => step_cond ht) (Q4A hA hc hnd hH1 hH0 hb hk n h (.code (by cases t; exact .condF ho; exact .condT ho) hg) hI hC hd hn)
        split at h
        · next t ht =>
          have hv : TRep _ _ _ _ _ := QS hI ht
          have hv' : a.eval x = .bool t := by
            generalize a.eval x = u at hv
            cases hv
            rfl
          cases t <;> exact both _ hv' h
        · next t ht =>
          have hv : TRep _ _ _ _ _ := QS hI ht
          have hv' : a.eval x = .bool t := by
            generalize a.eval x = u at hv
            cases hv
            rfl
          cases t <;> exact both _ hv' h
        · cases h
    · -- block
      cases hg with
      | code ho hg => exact Goes.step (fun cs => step_block) (Q4A hA hc hnd hH1 hH0 hb hk n h (.code (.block ho) (.inBlock hg)) hI hC hd hn)
    · -- loop
      cases hg with
      | code ho hg => exact Goes.step (fun cs => step_loop) (Q4A hA hc hnd hH1 hH0 hb hk n h (.code (.loop ho) (.inLoop ho hg)) hI hC hd hn)
    · -- inLoop
      cases hg with
      | inLoop ho hg => exact Goes.step (fun cs => step_inLoop) (Q4A hA hc hnd hH1 hH0 hb hk n h (.code (.loop ho) (.inLoop ho hg)) hI hC hd hn)
    · -- scope
      cases hg with
      | code ho hg => exact Goes.step (fun cs => step_scope) (Q4A hA hc hnd hH1 hH0 hb hk n h (.code (.scope ho) (.inScope hg)) hI hC hd hn)
    · -- exit
      cases hg with
      | code ho hg =>
        split at h
        · next k' hk' => exact Goes.step (fun cs => step_exit hk') (Q4A hA hc hnd hH1 hH0 hb hk n h (hg.exit hk') hI hC hd hn)
        · cases h
    · -- region
      next id ops draw =>
      split at h
      · next L hL => exact Qqh hE hO hA hL hI hC hH1 hH0 h hc (hg.find hnd) hb hk hd hn
      · next hL =>
        cases hg with
        | code ho hg =>
          refine QgC hE hDr hO h hI hC hn ?_
          rintro φ' Fz' a' w' ⟨st', h', hI', hC', hd', hs'⟩
          exact Q4A hA hc hnd hH1 hH0 hb hk n h' hg hI' hC' (hd'.trans hd) (by omega)
    · cases h
end
end Go.Ve
namespace Go.Ve
open Go.RowKit Go.Lib
set_option linter.unusedVariables false
set_option linter.unusedSimpArgs false
theorem Q5y {c0 : Code} : ∀ (x : Code) {id : Nat} {ops : Array Oper} {d : Bool} {k k0 : List Item}, Q1s id x k0 = some (ops, d, k) → Occ c0 x k0 → Occ c0 (.region id ops d) k
  | .region id' _ _, id, ops, d, k, k0, h, ho => by
    simp only [Q1s] at h
    cases hb : Nat.beq id' id with
    | false => rw [hb] at h; cases h
    | true =>
      rw [hb] at h
      have e := Q03 hb
      cases h
      exact e ▸ ho
  | .seq a b, id, ops, d, k, k0, h, ho => by
    simp only [Q1s] at h
    split at h
    · next hx => cases h; exact Q5y a hx (.seqL ho)
    · exact Q5y b h (.seqR ho)
  | .cond _ a b, id, ops, d, k, k0, h, ho => by
    simp only [Q1s] at h
    split at h
    · next hx => cases h; exact Q5y a hx (.condT ho)
    · exact Q5y b h (.condF ho)
  | .block _ b, _, _, _, _, _, h, ho => Q5y b h (.block ho)
  | .loop b, _, _, _, _, _, h, ho => Q5y b h (.loop ho)
  | .scope b, _, _, _, _, _, h, ho => Q5y b h (.scope ho)
  | .skip, _, _, _, _, _, h, _ | .rangeFunc .., _, _, _, _, _, h, _ | .exit _, _, _, _, _, _, h, _ | .label _, _, _, _, _, _, h, _ | .goto _, _, _, _, _, _, h, _ | .ret, _, _, _, _, _, h, _ | .refuse _, _, _, _, _, _, h, _ => by cases h
theorem Ctx.start {S : Sig} {A : Q04} {φ : Nat → Loc} {Fz : Nat → Prop} {st : St S.K} {w : World} (h : A.inL.blocks.length ≤ st.nx) : Ctx S A φ Fz st.heap w φ Fz st w :=
  ⟨h, fun _ _ _ _ => ⟨rfl, rfl⟩, fun _ _ _ => rfl, fun _ h => h, fun _ h => .inl h, fun _ _ h => .inl h, Chg.refl _ _⟩
section
variable {P : Program} {E : Env} (hE : Q0r P E) (hDr : Qfw P E) {orc : Orc E} (hO : Q8a P E orc)
include hE hDr hO
theorem Qqj {f m : Nat} {d : TL E.S.K (jobT E.ann ⟨f, m, none⟩)} {r : TL E.S.K (outT E.ann f m)} (h : Q5j E orc ⟨f, m, none⟩ d = some r) : Q2Y P E f m d r := by
  intro A hA
  unfold Q5j at h
  dsimp only at h
  split at h
  · cases h
  · next A' hA' =>
    obtain rfl : A = A' := Option.some.inj (hA.symm.trans hA')
    split at h
    · cases h
    · next c hc =>
      split at h
      · next st hst =>
        obtain ⟨hfn, _, c', hc', hnd⟩ := hE.ann f m A hA
        obtain rfl : c' = c := Option.some.inj (hc'.symm.trans hc)
        unfold build at hst
        split at hst
        · next xs bs hb0 =>
          cases hst
          refine ⟨xs, bs, hb0, fun φ Fz w vs hR hS _ cs => ?_⟩
          have hbs : ∃ d', Q1m A.inL.blocks (fun i => (i, 0)) A.inL.blocks d' = some bs := by
            unfold Q0h at hb0
            split at hb0
            · split at hb0
              · next h2 => cases hb0; exact ⟨_, h2⟩
              · cases hb0
            · cases hb0
          obtain ⟨d', hbs⟩ := hbs
          have hfr : Frame.enter P f vs .normal = (Frame.enter P f vs .normal).at ⟨vs ++ Array.replicate (A.fn.ntmps - vs.size) undef, []⟩ [.code c'] := by
            simp [Frame.enter, Frame.at, hfn, hc]
          have hsz : A.fn.ntmps ≤ (vs ++ Array.replicate (A.fn.ntmps - vs.size) undef).size := by simp; omega
          obtain ⟨v, w', fr, h1, h2, h3, h4⟩ := Q4A hE hDr hO hA hc hnd (φ0 := φ) (Fz0 := Fz) (H0 := QJ 0 bs) (w0 := w) (fun i cs hi => by
              obtain ⟨x, h1, _⟩ := Qd2 hbs i true cs hi
              exact ⟨x, (Q3f bs 0 i _).2 ⟨Nat.zero_le _, h1⟩⟩)
            (fun i cs0 hi => by
              obtain ⟨_, hi⟩ := (Q3f bs 0 i _).1 hi
              rw [Nat.sub_zero] at hi
              obtain ⟨_, hform⟩ := Q9c hbs
              rcases hform i _ hi with ⟨own, cs, c, g1, g2, _⟩ | ⟨e, l, g1, g2⟩
              · cases g2; exact ⟨_, g1⟩
              · cases g2)
            (b := Frame.enter P f vs .normal) rfl rfl _ h (.code .root .nil) (φ := φ) (Fz := Fz) (a := ⟨vs ++ Array.replicate (A.fn.ntmps - vs.size) undef, []⟩) (w := w)
            ⟨hR, fun t v hv => by
              have := hS t v hv
              rw [Q6k] at this ⊢
              by_cases hlt : t < vs.size
              · rwa [Array.getElem?_append_left hlt]
              · rw [Array.getElem?_append_right (by omega)]
                rw [Array.getElem?_eq_none (by omega)] at this
                rw [Array.getElem?_replicate]
                split <;> exact this⟩
            (Ctx.start (st := { slots := slotsOf xs, heap := QJ 0 bs, nx := A.inL.blocks.length }) (Nat.le_refl _)) rfl hsz cs
          rw [hfr]
          exact ⟨.returned v, w', fr, ⟨v, rfl, h1⟩, h2, h3, h4⟩
        · cases hst
      · cases h
theorem Qp4 {f m ρ : Nat} {d : TL E.S.K (jobT E.ann ⟨f, m, some ρ⟩)} {r : TL E.S.K (outT E.ann f m)} (h : Q5j E orc ⟨f, m, some ρ⟩ d = some r) : Qjw P E f m ρ d r := by
  intro A L c ops draw k hA hL hc hf
  unfold Q5j at h
  dsimp only at h
  split at h
  · cases h
  · next A' hA' =>
    obtain rfl : A = A' := Option.some.inj (hA.symm.trans hA')
    split at h
    · cases h
    · next c' hc' =>
      obtain rfl : c = c' := Option.some.inj (hc.symm.trans hc')
      obtain ⟨hfn, _, c2, hc2, hnd⟩ := hE.ann f m A hA
      obtain rfl : c = c2 := Option.some.inj (hc.symm.trans hc2)
      split at h
      · next L' hL' =>
        obtain rfl : L = L' := Option.some.inj (hL.symm.trans hL')
        split at h
        · next st ops' draw' k' hst hf' =>
          obtain ⟨rfl, rfl, rfl⟩ : ops = ops' ∧ draw = draw' ∧ k = k' := by
            have := hf.symm.trans hf'
            simp only [Option.some.injEq, Prod.mk.injEq] at this
            exact this
          cases hle : Nat.ble A.inL.blocks.length L.blocks.length with
          | false => rw [hle] at h; cases h
          | true =>
            rw [hle] at h
            dsimp only [chk] at h
            refine ⟨st, hst, Nat.le_of_ble_eq_true hle, fun φ0 Fz0 H0 w0 φ Fz b a w hI hC hH1 hH0 hb hk hd hn => ?_⟩
            refine QgC hE hDr hO h hI hC hn ?_
            rintro φ' Fz' a' w' ⟨st', h', hI', hC', hd', hs'⟩
            have hg : Good c k := (Q5y c hf .root).good
            exact Q4A hE hDr hO hA hc hnd hH1 hH0 hb hk _ h' hg hI' hC' (hd'.trans hd) (by omega)
        · cases h
      · cases h
end
end Go.Ve
namespace Go.Ve
set_option linter.unusedVariables false
set_option linter.unusedSimpArgs false
def Le {α : Type} (x y : Option α) : Prop := ∀ r, x = some r → y = some r
theorem Le.refl {α : Type} (x : Option α) : Le x x := fun _ h => h
theorem Le.none {α : Type} (x : Option α) : Le none x := fun _ h => by cases h
theorem Le.sif {α : Type} {b : Bool} {x x' y y' : Option α} (h : Le x x') (h' : Le y y') : Le (sif b x y) (sif b x' y') := by cases b; exact h'; exact h
theorem Le.sbind {α β : Type} {o o' : Option α} {f f' : α → Option β} (h : Le o o') (hf : ∀ x, Le (f x) (f' x)) : Le (sbind o f) (sbind o' f') := by
  intro r hr
  cases ho : o with
  | none => rw [ho] at hr; cases hr
  | some x => rw [ho] at hr; rw [h x ho]; exact hf x r hr
theorem Le.chk {α : Type} {b : Bool} {x x' : Option α} (h : Le x x') : Le (chk b x) (chk b x') := by cases b; exact Le.refl _; exact h
theorem Le.sel {α : Type} {b : Bool} {x x' y y' : Option α} (h : Le x x') (h' : Le y y') : Le (sel b x y) (sel b x' y') := by cases b; exact h'; exact h
theorem Qoj {α : Type} {x y : Option α} {r : α} (h : sboth x y = some r) : x = some r ∧ y = some r := by
  unfold sboth at h
  split at h
  · next e => exact ⟨e.trans h, h⟩
  · cases h
theorem Le.sboth {α : Type} {x x' y y' : Option α} (h : Le x x') (h' : Le y y') : Le (sboth x y) (sboth x' y') := fun r hr => by
  obtain ⟨h1, h2⟩ := Qoj hr
  unfold Go.Ve.sboth
  rw [h r h1, h' r h2, if_pos rfl]
section
variable {K : Nat → Type} {R : Type} {E : Env}
theorem QoN {op : UnOp} {x : Cell K} {k k' : Cell K → Option R} (hk : ∀ c, Le (k c) (k' c)) : Le (Q6I op x k) (Q6I op x k') := by
  unfold Q6I; repeat' (first | with_reducible exact Le.refl _ | with_reducible exact Le.none _ | with_reducible exact hk _ | with_reducible exact hk _ _ | with_reducible refine Le.sif ?_ ?_ | with_reducible refine Le.sbind (Le.refl _) (fun _ => ?_) | with_reducible refine Le.chk ?_ | with_reducible refine Le.sel ?_ ?_ | split)
theorem Qnc {op : BinOp} {tk : TK} {y0 : Operand} {x y : Cell K} {k k' : Cell K → Option R} (hk : ∀ c, Le (k c) (k' c)) : Le (Q4k op tk y0 x y k) (Q4k op tk y0 x y k') := by
  unfold Q4k; repeat' (first | with_reducible exact Le.refl _ | with_reducible exact Le.none _ | with_reducible exact hk _ | with_reducible exact hk _ _ | with_reducible refine Le.sif ?_ ?_ | with_reducible refine Le.sbind (Le.refl _) (fun _ => ?_) | with_reducible refine Le.chk ?_ | with_reducible refine Le.sel ?_ ?_ | split)
theorem QqS {st : St E.S.K} {n : Nat} {p : Cell E.S.K} {k k' : List (Cell E.S.K) → Option R} (hk : ∀ c, Le (k c) (k' c)) : Le (Q84 E st n p k) (Q84 E st n p k') := by
  unfold Q84; repeat' (first | with_reducible exact Le.refl _ | with_reducible exact Le.none _ | with_reducible exact hk _ | with_reducible exact hk _ _ | with_reducible refine Le.sif ?_ ?_ | with_reducible refine Le.sbind (Le.refl _) (fun _ => ?_) | with_reducible refine Le.chk ?_ | with_reducible refine Le.sel ?_ ?_ | split)
theorem QqQ {st : St E.S.K} {new : List (Cell E.S.K)} {p : Cell E.S.K} {k k' : St E.S.K → Option R} (hk : ∀ c, Le (k c) (k' c)) : Le (Qbl E st new p k) (Qbl E st new p k') := by
  unfold Qbl; repeat' (first | with_reducible exact Le.refl _ | with_reducible exact Le.none _ | with_reducible exact hk _ | with_reducible exact hk _ _ | with_reducible refine Le.sif ?_ ?_ | with_reducible refine Le.sbind (Le.refl _) (fun _ => ?_) | with_reducible refine Le.chk ?_ | with_reducible refine Le.sel ?_ ?_ | split)
theorem QpM {st : St E.S.K} {e : Nat} {l : List (E.S.K e)} {k k' : Kn E R} (hk : ∀ v st, Le (k v st) (k' v st)) : Le (Q3p E st e l k) (Q3p E st e l k') := hk _ _
theorem Qps {st : St E.S.K} {cs : List (Cell E.S.K)} {k k' : Kn E R} (hk : ∀ v st, Le (k v st) (k' v st)) : Le (newVar E st cs k) (newVar E st cs k') := hk _ _
theorem Qo8 {st : St E.S.K} {e b : Nat} {s x : Cell E.S.K} {k k' : Kn E R} (hk : ∀ v st, Le (k v st) (k' v st)) : Le (Q7j E st e b s x k) (Q7j E st e b s x k') := by
  unfold Q7j Q3p; repeat' (first | with_reducible exact Le.refl _ | with_reducible exact Le.none _ | with_reducible exact hk _ | with_reducible exact hk _ _ | with_reducible refine Le.sif ?_ ?_ | with_reducible refine Le.sbind (Le.refl _) (fun _ => ?_) | with_reducible refine Le.chk ?_ | with_reducible refine Le.sel ?_ ?_ | split)
theorem Qqf {st : St E.S.K} {e : Nat} {d x : Cell E.S.K} {k k' : Kn E R} (hk : ∀ v st, Le (k v st) (k' v st)) : Le (Qbt E st e d x k) (Qbt E st e d x k') := by
  unfold Qbt; repeat' (first | with_reducible exact Le.refl _ | with_reducible exact Le.none _ | with_reducible exact hk _ | with_reducible exact hk _ _ | with_reducible refine Le.sif ?_ ?_ | with_reducible refine Le.sbind (Le.refl _) (fun _ => ?_) | with_reducible refine Le.chk ?_ | with_reducible refine Le.sel ?_ ?_ | split)
theorem Qpy {st : St E.S.K} {e : Nat} {z : List (Cell E.S.K)} {d : Cell E.S.K} {k k' : Kn E R} (hk : ∀ v st, Le (k v st) (k' v st)) : Le (Q90 E st e z d k) (Q90 E st e z d k') := by
  unfold Q90; repeat' (first | with_reducible exact Le.refl _ | with_reducible exact Le.none _ | with_reducible exact hk _ | with_reducible exact hk _ _ | with_reducible refine Le.sif ?_ ?_ | with_reducible refine Le.sbind (Le.refl _) (fun _ => ?_) | with_reducible refine Le.chk ?_ | with_reducible refine Le.sel ?_ ?_ | split)
theorem Qrw {st : St E.S.K} {tk : TK} {x : Cell E.S.K} {k k' : Cell E.S.K → Option R} (hk : ∀ c, Le (k c) (k' c)) : Le (dLen E st tk x k) (dLen E st tk x k') := by
  unfold dLen; repeat' (first | with_reducible exact Le.refl _ | with_reducible exact Le.none _ | with_reducible exact hk _ | with_reducible exact hk _ _ | with_reducible refine Le.sif ?_ ?_ | with_reducible refine Le.sbind (Le.refl _) (fun _ => ?_) | with_reducible refine Le.chk ?_ | with_reducible refine Le.sel ?_ ?_ | split)
theorem Qpq {len : Nat} {lo hi : Option Int} {k k' : Nat → Nat → Option R} (hk : ∀ a b, Le (k a b) (k' a b)) : Le (bounds len lo hi k) (bounds len lo hi k') := by
  unfold bounds; repeat' (first | with_reducible exact Le.refl _ | with_reducible exact Le.none _ | with_reducible exact hk _ | with_reducible exact hk _ _ | with_reducible refine Le.sif ?_ ?_ | with_reducible refine Le.sbind (Le.refl _) (fun _ => ?_) | with_reducible refine Le.chk ?_ | with_reducible refine Le.sel ?_ ?_ | split)
theorem Qp0 {st : St E.S.K} {t : Nat} {x : Cell E.S.K} {lo hi : Option Int} {k k' : Cell E.S.K → Option R} (hk : ∀ c, Le (k c) (k' c)) : Le (Q77 E st t x lo hi k) (Q77 E st t x lo hi k') := by
  unfold Q77; repeat' (first | with_reducible exact Le.refl _ | with_reducible exact hk _ | refine Le.chk ?_ | with_reducible refine Qpq (fun _ _ => ?_) | split)
theorem Qks {st : St E.S.K} {t : Nat} {x : Cell E.S.K} {i : Int} {k k' : Cell E.S.K → Option R} (hk : ∀ c, Le (k c) (k' c)) : Le (Q2F E st t x i k) (Q2F E st t x i k') := by
  unfold Q2F; repeat' (first | with_reducible exact Le.refl _ | with_reducible exact Le.none _ | with_reducible exact hk _ | with_reducible exact hk _ _ | with_reducible refine Le.sif ?_ ?_ | with_reducible refine Le.sbind (Le.refl _) (fun _ => ?_) | with_reducible refine Le.chk ?_ | with_reducible refine Le.sel ?_ ?_ | split)
theorem QmX {st : St E.S.K} {s d : TD} {x : Cell E.S.K} {k k' : Kn E R} (hk : ∀ v st, Le (k v st) (k' v st)) : Le (Q4c E st s d x k) (Q4c E st s d x k') := by
  unfold Q4c Q3p; repeat' (first | with_reducible exact Le.refl _ | with_reducible exact Le.none _ | with_reducible exact hk _ | with_reducible exact hk _ _ | with_reducible refine Le.sif ?_ ?_ | with_reducible refine Le.sbind (Le.refl _) (fun _ => ?_) | with_reducible refine Le.chk ?_ | with_reducible refine Le.sel ?_ ?_ | split)
def OLe (E : Env) (o o' : Orc E) : Prop := ∀ j d, Le (o j d) (o' j d)
theorem QqR {o o' : Orc E} (ho : OLe E o o') {st : St E.S.K} {g m : Nat} {args : List (FV E.S.K)} {k k' : Kn E R} (hk : ∀ v st, Le (k v st) (k' v st)) : Le (Q9h E o st g m args k) (Q9h E o' st g m args k') := by
  unfold Q9h
  repeat' (first | with_reducible exact Le.refl _ | with_reducible exact hk _ _ | with_reducible refine Le.chk ?_ | refine Le.sbind (ho _ _) (fun _ => ?_) | split)
theorem QpN {o o' : Orc E} (ho : OLe E o o') {site : Nat → Nat} {st : St E.S.K} {op : Oper} {k k' : Kn E R} (hk : ∀ v st, Le (k v st) (k' v st)) : Le (dop E o site st op k) (dop E o' site st op k') := by
  unfold dop
  split
  all_goals repeat' (first
    | with_reducible exact Le.refl _ | with_reducible exact Le.none _ | with_reducible exact hk _ _
    | with_reducible refine Le.sif ?_ ?_ | with_reducible refine Le.sbind (Le.refl _) (fun _ => ?_)
    | with_reducible refine Qps hk | with_reducible refine QpM hk
    | with_reducible refine QqS (fun _ => ?_) | with_reducible refine QqQ (fun _ => ?_) | with_reducible refine Qnc (fun _ => ?_) | with_reducible refine QoN (fun _ => ?_)
    | with_reducible refine QmX hk | with_reducible refine Qp0 (fun _ => ?_) | with_reducible refine Qks (fun _ => ?_) | with_reducible refine Qrw (fun _ => ?_) | with_reducible refine Qo8 hk
    | with_reducible refine Qqf hk | with_reducible refine Qpy hk | with_reducible refine QqR ho hk | with_reducible refine Le.chk ?_ | with_reducible refine Le.sel ?_ ?_ | split)
theorem QmC {st : St E.S.K} {ops : Array Oper} {op : Oper} {y y' n n' : St E.S.K → Option R} (hy : ∀ st, Le (y st) (y' st)) (hn : ∀ st, Le (n st) (n' st)) : Le (Qbs E st ops op y n) (Qbs E st ops op y' n') := by
  unfold Qbs
  repeat' (first | with_reducible exact Le.refl _ | with_reducible exact hy _ | with_reducible exact hn _ | with_reducible refine Le.sif ?_ ?_ | split)
theorem QoO {o o' : Orc E} (ho : OLe E o o') {A : Q04} {ops : Array Oper} (l : List Nat) : ∀ {st : St E.S.K} {k k' : St E.S.K → Option R} (hk : ∀ st, Le (k st) (k' st)), Le (Q4P E o A ops l st k) (Q4P E o' A ops l st k') := by
  induction l with
  | nil => intro st k k' hk; exact hk _
  | cons i l ih =>
    intro st k k' hk
    rw [Q4P, Q4P]
    split
    · refine QmC (fun st => ?_) (fun st => ?_)
      · split
        · refine Le.sif (Le.sboth ?_ ?_) ?_ <;> (split; exact ih hk; exact Le.refl _)
        · refine QpN ho (fun v st => ?_)
          split
          · exact ih hk
          · exact Le.refl _
      · split
        · exact ih hk
        · exact Le.refl _
    · exact Le.refl _
theorem Qm5 {o o' : Orc E} (ho : OLe E o o') {A : Q04} {ops : Array Oper} : ∀ (l : List Nat) {tr : List Tr} {st : St E.S.K} {k k' : St E.S.K → Option R} (hk : ∀ st, Le (k st) (k' st)), Le (Qap E o A ops l tr st k) (Qap E o' A ops l tr st k')
  | [], tr, st, k, k', hk => Le.chk (hk _)
  | i :: l, tr, st, k, k', hk => by
    have ih := fun tr st => Qm5 ho (A := A) (ops := ops) l (tr := tr) (st := st) hk
    unfold Qap
    split
    · refine QmC (fun st => QpN ho (fun v st => ?_)) (fun st => ?_)
      · refine Le.chk ?_
        split
        · exact ih _ _
        · exact Le.refl _
      · split
        · exact ih _ _
        · exact Le.refl _
    · exact Le.refl _
theorem Qf0 {o o' : Orc E} (ho : OLe E o o') {A : Q04} {ops : Array Oper} {draw : Bool} {st : St E.S.K} {k k' : St E.S.K → Option R} (hk : ∀ st, Le (k st) (k' st)) : Le (QaA E o A ops draw st k) (QaA E o' A ops draw st k') := by
  cases draw
  · exact QoO ho _ hk
  · exact Qm5 ho _ hk
theorem QqA {o o' : Orc E} (ho : OLe E o o') {f m r : Nat} {A : Q04} {L : Lay} {st : St E.S.K} : Le (Qfz E o f m r A L st) (Qfz E o' f m r A L st) := by
  unfold Qfz
  split
  · split
    · exact ho _ _
    · exact Le.refl _
  · exact Le.refl _
theorem Qq1 {o o' : Orc E} (ho : OLe E o o') {f m : Nat} {A : Q04} : ∀ (n : Nat) {todo : List Item} {st : St E.S.K}, Le (run E o f m A n todo st) (run E o' f m A n todo st)
  | 0, _, _ => Le.refl _
  | n + 1, [], st => Le.refl _
  | n + 1, it :: k, st => by
    have ih := fun todo st => Qq1 ho (f := f) (m := m) (A := A) n (todo := todo) (st := st)
    unfold run
    split
    all_goals repeat' (first | with_reducible exact Le.refl _ | with_reducible exact ih _ _ | with_reducible refine Le.sif ?_ ?_ | with_reducible refine Le.sel ?_ ?_ | with_reducible exact QqA ho | with_reducible refine Qf0 ho (fun _ => ?_) | split)
theorem QjW {o o' : Orc E} (ho : OLe E o o') (j : Job) (d : TL E.S.K (jobT E.ann j)) : Le (Q5j E o j d) (Q5j E o' j d) := by
  unfold Q5j
  repeat' (first | with_reducible exact Le.refl _ | with_reducible exact Qq1 ho _ | with_reducible refine Le.chk ?_ | with_reducible refine Qf0 ho (fun _ => ?_) | split)
end
end Go.Ve
namespace Go.Ve
set_option linter.unusedVariables false
section
variable (E : Env)
noncomputable def jobs (o : Orc E) : Orc E := fun j d =>
  match j, d with
  | ⟨f, m, none⟩, d =>
    match E.ext f m with
    | some g => g d
    | none => Q5j E o ⟨f, m, none⟩ d
  | ⟨f, m, some r⟩, d => Q5j E o ⟨f, m, some r⟩ d
theorem Qji {o o' : Orc E} (h : OLe E o o') : OLe E (jobs E o) (jobs E o') := by
  intro j d
  obtain ⟨f, m, l⟩ := j
  cases l with
  | none =>
    unfold jobs
    dsimp only
    cases E.ext f m with
    | none => exact QjW h _ _
    | some g => exact Le.refl _
  | some r => exact QjW h _ _
def Ans (E : Env) : Type := (j : Job) → TL E.S.K (jobT E.ann j) → TL E.S.K (outT E.ann j.f j.m) → Prop
def QdU (o : Orc E) (Q : Ans E) : Prop := ∀ j d r, o j d = some r → Q j d r
def QnZ (Q : Ans E) : Prop := ∀ o, QdU E o Q → QdU E (jobs E o) Q
def Mu : Ans E := fun j d r => ∀ Q, QnZ E Q → Q j d r
theorem Qjx {o : Orc E} (h : QdU E o (Mu E)) : QdU E (jobs E o) (Mu E) := fun j d r hr Q hQ => hQ o (fun j d r h' => h j d r h' Q hQ) j d r hr
theorem QnB {j : Job} {d : TL E.S.K (jobT E.ann j)} {r : TL E.S.K (outT E.ann j.f j.m)} (h : Mu E j d r) : ∃ o, QdU E o (Mu E) ∧ jobs E o j d = some r := by
  refine h (fun j d r => ∃ o, QdU E o (Mu E) ∧ jobs E o j d = some r) (fun o ho j d r hr => ⟨o, fun j d r h' => ?_, hr⟩)
  obtain ⟨o', h1, h2⟩ := ho j d r h'
  exact Qjx E h1 j d r h2
theorem QrQ {j : Job} {d : TL E.S.K (jobT E.ann j)} {r r' : TL E.S.K (outT E.ann j.f j.m)} (h : Mu E j d r) (h' : Mu E j d r') : r' = r := by
  suffices key : Mu E j d r ∧ ∀ r', Mu E j d r' → r' = r from key.2 r' h'
  refine h (fun j d r => Mu E j d r ∧ ∀ r', Mu E j d r' → r' = r) (fun o ho j d r hr => ⟨Qjx E (fun j d r h => (ho j d r h).1) j d r hr, fun r' h' => ?_⟩)
  obtain ⟨o', h1, h2⟩ := QnB E h'
  let u : Orc E := fun j d => match o j d with | some x => some x | none => o' j d
  have hu : OLe E o u := fun j d r h => by show (match o j d with | some x => some x | none => o' j d) = some r; rw [h]
  have hu' : OLe E o' u := fun j d r h => by
    show (match o j d with | some x => some x | none => o' j d) = some r
    cases hx : o j d with
    | none => exact h
    | some x => rw [(ho j d x hx).2 r (h1 j d r h)]
  have e1 := Qji E hu j d r hr
  have e2 := Qji E hu' j d r' h2
  rw [e1] at e2
  exact (Option.some.inj e2).symm
open Classical in
noncomputable def Sem : Orc E := fun j d => if h : ∃ r, Mu E j d r then some h.choose else none
theorem Qdn {j : Job} {d : TL E.S.K (jobT E.ann j)} {r : TL E.S.K (outT E.ann j.f j.m)} : Sem E j d = some r ↔ Mu E j d r := by
  unfold Sem
  constructor
  · intro h
    split at h
    · next hx => cases h; exact hx.choose_spec
    · cases h
  · intro h
    rw [dif_pos ⟨r, h⟩, QrQ E h (Exists.choose_spec (p := fun r => Mu E j d r) ⟨r, h⟩)]
theorem Qri {α : Type} {x y : Option α} (h : ∀ r, x = some r ↔ y = some r) : x = y := by
  cases y with
  | none =>
    cases x with
    | none => rfl
    | some a => have := (h a).1 rfl; cases this
  | some b => exact (h b).2 rfl
theorem QlC : Sem E = jobs E (Sem E) := by
  funext j d
  refine Qri (fun r => ⟨fun h => ?_, fun h => ?_⟩)
  · obtain ⟨o, h1, h2⟩ := QnB E ((Qdn E).1 h)
    exact Qji E (fun j d r h => (Qdn E).2 (h1 j d r h)) j d r h2
  · exact (Qdn E).2 (Qjx E (fun j d r h => (Qdn E).1 h) j d r h)
theorem Qoo (Q : Ans E) (h : QnZ E Q) : QdU E (Sem E) Q := fun j d r hr => (Qdn E).1 hr Q h
theorem Qrl {f m : Nat} (h : E.ext f m = none) (d : TL E.S.K (jobT E.ann ⟨f, m, none⟩)) : Sem E ⟨f, m, none⟩ d = Q5j E (Sem E) ⟨f, m, none⟩ d := by
  have := congrFun (congrFun (QlC E) ⟨f, m, none⟩) d
  rw [this]
  unfold jobs
  dsimp only
  rw [h]
theorem Qpl (f m ρ : Nat) (d : TL E.S.K (jobT E.ann ⟨f, m, some ρ⟩)) : Sem E ⟨f, m, some ρ⟩ d = Q5j E (Sem E) ⟨f, m, some ρ⟩ d := congrFun (congrFun (QlC E) ⟨f, m, some ρ⟩) d
theorem Qru {f m : Nat} {g : TL E.S.K (jobT E.ann ⟨f, m, none⟩) → Option (TL E.S.K (outT E.ann f m))} (h : E.ext f m = some g) (d : TL E.S.K (jobT E.ann ⟨f, m, none⟩)) : Sem E ⟨f, m, none⟩ d = g d := by
  have := congrFun (congrFun (QlC E) ⟨f, m, none⟩) d
  rw [this]
  unfold jobs
  dsimp only
  rw [h]
end
def Qr7 (P : Program) (E : Env) : Prop := ∀ f m g, E.ext f m = some g → ∀ d r, g d = some r → Q2Y P E f m d r
def QqZ (P : Program) (E : Env) : (j : Job) → TL E.S.K (jobT E.ann j) → TL E.S.K (outT E.ann j.f j.m) → Prop
  | ⟨f, m, none⟩, d, r => Q2Y P E f m d r
  | ⟨f, m, some ρ⟩, d, r => Qjw P E f m ρ d r
theorem Qs2 {P : Program} {E : Env} (hE : Q0r P E) (hDr : Qfw P E) (hX : Qr7 P E) : Q8a P E (Sem E) := by
  have key : ∀ j d r, Sem E j d = some r → QqZ P E j d r := by
    refine Qoo E (fun j d r => QqZ P E j d r) ?_
    · intro o ho j d r h
      have hO : Q8a P E o := ⟨fun f m d r h => ho ⟨f, m, none⟩ d r h, fun f m ρ d r h => ho ⟨f, m, some ρ⟩ d r h⟩
      obtain ⟨f, m, l⟩ := j
      cases l with
      | none =>
        unfold jobs at h
        dsimp only at h
        cases hx : E.ext f m with
        | none => rw [hx] at h; exact Qqj hE hDr hO h
        | some g => rw [hx] at h; exact hX f m g hx d r h
      | some ρ => exact Qp4 hE hDr hO h
  exact ⟨fun f m d r h => key ⟨f, m, none⟩ d r h, fun f m ρ d r h => key ⟨f, m, some ρ⟩ d r h⟩
end Go.Ve
namespace Go.Ve
set_option linter.unusedVariables false
set_option linter.unusedSimpArgs false
def Bn {R B : Type} (q : B → Option R) (x : Option R) (y : Option B) : Prop := x = y.bind q
theorem Bn.none {R B : Type} {q : B → Option R} : Bn q none none := rfl
theorem Bn.sif {R B : Type} {q : B → Option R} {b : Bool} {x y : Option R} {x' y' : Option B} (h : Bn q x x') (h' : Bn q y y') : Bn q (sif b x y) (sif b x' y') := by cases b; exact h'; exact h
theorem Bn.sbind {R B α : Type} {q : B → Option R} {o : Option α} {f : α → Option R} {f' : α → Option B} (hf : ∀ x, Bn q (f x) (f' x)) : Bn q (sbind o f) (sbind o f') := by
  cases o with
  | none => rfl
  | some x => exact hf x
theorem Bn.chk {R B : Type} {q : B → Option R} {b : Bool} {x : Option R} {x' : Option B} (h : Bn q x x') : Bn q (chk b x) (chk b x') := by cases b; exact Bn.none; exact h
theorem Bn.sel {R B : Type} {q : B → Option R} {b : Bool} {x y : Option R} {x' y' : Option B} (h : Bn q x x') (h' : Bn q y y') : Bn q (sel b x y) (sel b x' y') := by cases b; exact h'; exact h
section
variable {K : Nat → Type} {R B : Type} {E : Env} {q : B → Option R}
theorem Qpt {op : UnOp} {x : Cell K} {k : Cell K → Option R} {k' : Cell K → Option B} (hk : ∀ c, Bn q (k c) (k' c)) : Bn q (Q6I op x k) (Q6I op x k') := by
  unfold Q6I; repeat' (first | with_reducible exact Bn.none | with_reducible exact hk _ | with_reducible exact hk _ _ | with_reducible refine Bn.sif ?_ ?_ | with_reducible refine Bn.sbind (fun _ => ?_) | with_reducible refine Bn.chk ?_ | with_reducible refine Bn.sel ?_ ?_ | split)
theorem Qn9 {op : BinOp} {tk : TK} {y0 : Operand} {x y : Cell K} {k : Cell K → Option R} {k' : Cell K → Option B} (hk : ∀ c, Bn q (k c) (k' c)) : Bn q (Q4k op tk y0 x y k) (Q4k op tk y0 x y k') := by
  unfold Q4k; repeat' (first | with_reducible exact Bn.none | with_reducible exact hk _ | with_reducible exact hk _ _ | with_reducible refine Bn.sif ?_ ?_ | with_reducible refine Bn.sbind (fun _ => ?_) | with_reducible refine Bn.chk ?_ | with_reducible refine Bn.sel ?_ ?_ | split)
theorem Qq9 {st : St E.S.K} {n : Nat} {p : Cell E.S.K} {k : List (Cell E.S.K) → Option R} {k' : List (Cell E.S.K) → Option B} (hk : ∀ c, Bn q (k c) (k' c)) : Bn q (Q84 E st n p k) (Q84 E st n p k') := by
  unfold Q84; repeat' (first | with_reducible exact Bn.none | with_reducible exact hk _ | with_reducible exact hk _ _ | with_reducible refine Bn.sif ?_ ?_ | with_reducible refine Bn.sbind (fun _ => ?_) | with_reducible refine Bn.chk ?_ | with_reducible refine Bn.sel ?_ ?_ | split)
theorem Qqu {st : St E.S.K} {new : List (Cell E.S.K)} {p : Cell E.S.K} {k : St E.S.K → Option R} {k' : St E.S.K → Option B} (hk : ∀ c, Bn q (k c) (k' c)) : Bn q (Qbl E st new p k) (Qbl E st new p k') := by
  unfold Qbl; repeat' (first | with_reducible exact Bn.none | with_reducible exact hk _ | with_reducible exact hk _ _ | with_reducible refine Bn.sif ?_ ?_ | with_reducible refine Bn.sbind (fun _ => ?_) | with_reducible refine Bn.chk ?_ | with_reducible refine Bn.sel ?_ ?_ | split)
theorem QpD {st : St E.S.K} {e : Nat} {l : List (E.S.K e)} {k : Kn E R} {k' : Kn E B} (hk : ∀ v st, Bn q (k v st) (k' v st)) : Bn q (Q3p E st e l k) (Q3p E st e l k') := hk _ _
theorem Qpo {st : St E.S.K} {cs : List (Cell E.S.K)} {k : Kn E R} {k' : Kn E B} (hk : ∀ v st, Bn q (k v st) (k' v st)) : Bn q (newVar E st cs k) (newVar E st cs k') := hk _ _
theorem Qo4 {st : St E.S.K} {e b : Nat} {s x : Cell E.S.K} {k : Kn E R} {k' : Kn E B} (hk : ∀ v st, Bn q (k v st) (k' v st)) : Bn q (Q7j E st e b s x k) (Q7j E st e b s x k') := by
  unfold Q7j Q3p; repeat' (first | with_reducible exact Bn.none | with_reducible exact hk _ | with_reducible exact hk _ _ | with_reducible refine Bn.sif ?_ ?_ | with_reducible refine Bn.sbind (fun _ => ?_) | with_reducible refine Bn.chk ?_ | with_reducible refine Bn.sel ?_ ?_ | split)
theorem QqE {st : St E.S.K} {e : Nat} {d x : Cell E.S.K} {k : Kn E R} {k' : Kn E B} (hk : ∀ v st, Bn q (k v st) (k' v st)) : Bn q (Qbt E st e d x k) (Qbt E st e d x k') := by
  unfold Qbt; repeat' (first | with_reducible exact Bn.none | with_reducible exact hk _ | with_reducible exact hk _ _ | with_reducible refine Bn.sif ?_ ?_ | with_reducible refine Bn.sbind (fun _ => ?_) | with_reducible refine Bn.chk ?_ | with_reducible refine Bn.sel ?_ ?_ | split)
theorem Qq0 {st : St E.S.K} {e : Nat} {z : List (Cell E.S.K)} {d : Cell E.S.K} {k : Kn E R} {k' : Kn E B} (hk : ∀ v st, Bn q (k v st) (k' v st)) : Bn q (Q90 E st e z d k) (Q90 E st e z d k') := by
  unfold Q90; repeat' (first | with_reducible exact Bn.none | with_reducible exact hk _ | with_reducible exact hk _ _ | with_reducible refine Bn.sif ?_ ?_ | with_reducible refine Bn.sbind (fun _ => ?_) | with_reducible refine Bn.chk ?_ | with_reducible refine Bn.sel ?_ ?_ | split)
theorem QrE {st : St E.S.K} {tk : TK} {x : Cell E.S.K} {k : Cell E.S.K → Option R} {k' : Cell E.S.K → Option B} (hk : ∀ c, Bn q (k c) (k' c)) : Bn q (dLen E st tk x k) (dLen E st tk x k') := by
  unfold dLen; repeat' (first | with_reducible exact Bn.none | with_reducible exact hk _ | with_reducible exact hk _ _ | with_reducible refine Bn.sif ?_ ?_ | with_reducible refine Bn.sbind (fun _ => ?_) | with_reducible refine Bn.chk ?_ | with_reducible refine Bn.sel ?_ ?_ | split)
theorem Qpd {len : Nat} {lo hi : Option Int} {k : Nat → Nat → Option R} {k' : Nat → Nat → Option B} (hk : ∀ a b, Bn q (k a b) (k' a b)) : Bn q (bounds len lo hi k) (bounds len lo hi k') := by
  unfold bounds; repeat' (first | with_reducible exact Bn.none | with_reducible exact hk _ | with_reducible exact hk _ _ | with_reducible refine Bn.sif ?_ ?_ | with_reducible refine Bn.sbind (fun _ => ?_) | with_reducible refine Bn.chk ?_ | with_reducible refine Bn.sel ?_ ?_ | split)
theorem Qpn {st : St E.S.K} {t : Nat} {x : Cell E.S.K} {lo hi : Option Int} {k : Cell E.S.K → Option R} {k' : Cell E.S.K → Option B} (hk : ∀ c, Bn q (k c) (k' c)) : Bn q (Q77 E st t x lo hi k) (Q77 E st t x lo hi k') := by
  unfold Q77; repeat' (first | with_reducible exact Bn.none | with_reducible exact hk _ | refine Bn.chk ?_ | with_reducible refine Qpd (fun _ _ => ?_) | split)
theorem QkK {st : St E.S.K} {t : Nat} {x : Cell E.S.K} {i : Int} {k : Cell E.S.K → Option R} {k' : Cell E.S.K → Option B} (hk : ∀ c, Bn q (k c) (k' c)) : Bn q (Q2F E st t x i k) (Q2F E st t x i k') := by
  unfold Q2F; repeat' (first | with_reducible exact Bn.none | with_reducible exact hk _ | with_reducible exact hk _ _ | with_reducible refine Bn.sif ?_ ?_ | with_reducible refine Bn.sbind (fun _ => ?_) | with_reducible refine Bn.chk ?_ | with_reducible refine Bn.sel ?_ ?_ | split)
theorem Qnp {st : St E.S.K} {s d : TD} {x : Cell E.S.K} {k : Kn E R} {k' : Kn E B} (hk : ∀ v st, Bn q (k v st) (k' v st)) : Bn q (Q4c E st s d x k) (Q4c E st s d x k') := by
  unfold Q4c Q3p; repeat' (first | with_reducible exact Bn.none | with_reducible exact hk _ | with_reducible exact hk _ _ | with_reducible refine Bn.sif ?_ ?_ | with_reducible refine Bn.sbind (fun _ => ?_) | with_reducible refine Bn.chk ?_ | with_reducible refine Bn.sel ?_ ?_ | split)
theorem Qqv {o : Orc E} {st : St E.S.K} {g m : Nat} {args : List (FV E.S.K)} {k : Kn E R} {k' : Kn E B} (hk : ∀ v st, Bn q (k v st) (k' v st)) : Bn q (Q9h E o st g m args k) (Q9h E o st g m args k') := by
  unfold Q9h
  repeat' (first | with_reducible exact Bn.none | with_reducible exact hk _ _ | with_reducible refine Bn.chk ?_ | refine Bn.sbind (fun _ => ?_) | split)
theorem QrR {o : Orc E} {site : Nat → Nat} {st : St E.S.K} {op : Oper} {k : Kn E R} {k' : Kn E B} (hk : ∀ v st, Bn q (k v st) (k' v st)) : Bn q (dop E o site st op k) (dop E o site st op k') := by
  unfold dop
  split
  all_goals repeat' (first
    | with_reducible exact Bn.none | with_reducible exact hk _ _
    | with_reducible refine Bn.sif ?_ ?_ | with_reducible refine Bn.sbind (Bn.none) (fun _ => ?_)
    | with_reducible refine Qpo hk | with_reducible refine QpD hk
    | with_reducible refine Qq9 (fun _ => ?_) | with_reducible refine Qqu (fun _ => ?_) | with_reducible refine Qn9 (fun _ => ?_) | with_reducible refine Qpt (fun _ => ?_)
    | with_reducible refine Qnp hk | with_reducible refine Qpn (fun _ => ?_) | with_reducible refine QkK (fun _ => ?_) | with_reducible refine QrE (fun _ => ?_) | with_reducible refine Qo4 hk
    | with_reducible refine QqE hk | with_reducible refine Qq0 hk | with_reducible refine Qqv hk | with_reducible refine Bn.chk ?_ | with_reducible refine Bn.sel ?_ ?_ | split)
  all_goals exact Bn.sbind (fun _ => hk _ _)
def pt (o : Orc E) (site : Nat → Nat) (st : St E.S.K) (op : Oper) : Option (SV E.S.K × St E.S.K) := dop E o site st op (fun v st' => some (v, st'))
theorem QrX {o : Orc E} {site : Nat → Nat} {st : St E.S.K} {op : Oper} {k : Kn E R} {r : R} (h : dop E o site st op k = some r) : ∃ v st', pt o site st op = some (v, st') ∧ k v st' = some r := by
  have hb : Bn (fun p => k p.1 p.2) (dop E o site st op k) (pt o site st op) := QrR (fun v st => rfl)
  unfold Bn at hb
  rw [h] at hb
  cases hp : pt o site st op with
  | none => rw [hp] at hb; cases hb
  | some p => rw [hp] at hb; exact ⟨p.1, p.2, rfl, hb.symm⟩
end
end Go.Ve
namespace Go.Ve
set_option linter.unusedVariables false
set_option linter.unusedSimpArgs false
def Qt {S : Sig} (s : St S.K) (x : Option (SV S.K × St S.K)) : Prop := ∀ v st', x = some (v, st') → ∀ id, id < s.nx → get st'.heap id = get s.heap id
section
variable {S : Sig} {s : St S.K}
theorem Qt.none : Qt s none := fun _ _ h => by cases h
theorem Qt.here {v : SV S.K} : Qt s (some (v, s)) := fun _ _ h _ _ => by cases h; rfl
theorem Qt.sif {b : Bool} {x y : Option (SV S.K × St S.K)} (h : Qt s x) (h' : Qt s y) : Qt s (sif b x y) := by cases b; exact h'; exact h
theorem Qt.sbind {α : Type} {o : Option α} {f : α → Option (SV S.K × St S.K)} (hf : ∀ x, Qt s (f x)) : Qt s (sbind o f) := by
  cases o with
  | none => exact Qt.none
  | some x => exact hf x
theorem Qt.chk {b : Bool} {x : Option (SV S.K × St S.K)} (h : Qt s x) : Qt s (chk b x) := by cases b; exact Qt.none; exact h
theorem Qt.sel {b : Bool} {x y : Option (SV S.K × St S.K)} (h : Qt s x) (h' : Qt s y) : Qt s (sel b x y) := by cases b; exact h'; exact h
end
section
variable {E : Env} {s : St E.S.K}
theorem QpL {op : UnOp} {x : Cell E.S.K} {k : Cell E.S.K → Option (SV E.S.K × St E.S.K)} (hk : ∀ c, Qt s (k c)) : Qt s (Q6I op x k) := by
  unfold Q6I; repeat' (first | with_reducible exact Qt.none | with_reducible exact hk _ | split)
theorem Qn1 {op : BinOp} {tk : TK} {y0 : Operand} {x y : Cell E.S.K} {k : Cell E.S.K → Option (SV E.S.K × St E.S.K)} (hk : ∀ c, Qt s (k c)) : Qt s (Q4k op tk y0 x y k) := by
  unfold Q4k; repeat' (first | with_reducible exact Qt.none | with_reducible exact hk _ | with_reducible refine Qt.sif ?_ ?_ | with_reducible refine Qt.chk ?_ | split)
theorem QqB {st : St E.S.K} {n : Nat} {p : Cell E.S.K} {k : List (Cell E.S.K) → Option (SV E.S.K × St E.S.K)} (hk : ∀ c, Qt s (k c)) : Qt s (Q84 E st n p k) := by
  unfold Q84; repeat' (first | with_reducible exact Qt.none | with_reducible exact hk _ | with_reducible refine Qt.sbind (fun _ => ?_) | with_reducible refine Qt.chk ?_ | split)
theorem Qkj {e : Nat} {l : List (E.S.K e)} : Qt s (Q3p E s e l (fun v st' => some (v, st'))) := fun v st' h id hid => by
  unfold Q3p at h
  cases h
  rw [Qw, if_neg (by omega)]
theorem QpK {cs : List (Cell E.S.K)} : Qt s (newVar E s cs (fun v st' => some (v, st'))) := fun v st' h id hid => by
  unfold newVar at h
  cases h
  rw [Qw, if_neg (by omega)]
theorem Qrq {st : St E.S.K} {tk : TK} {x : Cell E.S.K} {k : Cell E.S.K → Option (SV E.S.K × St E.S.K)} (hk : ∀ c, Qt s (k c)) : Qt s (dLen E st tk x k) := by
  unfold dLen; repeat' (first | with_reducible exact Qt.none | with_reducible exact hk _ | with_reducible refine Qt.chk ?_ | split)
theorem QpW {len : Nat} {lo hi : Option Int} {k : Nat → Nat → Option (SV E.S.K × St E.S.K)} (hk : ∀ a b, Qt s (k a b)) : Qt s (bounds len lo hi k) := by
  unfold bounds; repeat' (first | with_reducible exact Qt.none | with_reducible exact hk _ _ | with_reducible refine Qt.sif ?_ ?_ | split)
theorem QpU {st : St E.S.K} {t : Nat} {x : Cell E.S.K} {lo hi : Option Int} {k : Cell E.S.K → Option (SV E.S.K × St E.S.K)} (hk : ∀ c, Qt s (k c)) : Qt s (Q77 E st t x lo hi k) := by
  unfold Q77; repeat' (first | with_reducible exact Qt.none | with_reducible exact hk _ | refine Qt.chk ?_ | with_reducible refine QpW (fun _ _ => ?_) | split)
theorem QkE {st : St E.S.K} {t : Nat} {x : Cell E.S.K} {i : Int} {k : Cell E.S.K → Option (SV E.S.K × St E.S.K)} (hk : ∀ c, Qt s (k c)) : Qt s (Q2F E st t x i k) := by
  unfold Q2F; repeat' (first | with_reducible exact Qt.none | with_reducible exact hk _ | with_reducible refine Qt.sif ?_ ?_ | with_reducible refine Qt.sbind (fun _ => ?_) | with_reducible refine Qt.chk ?_ | split)
theorem QmN {a d : TD} {x : Cell E.S.K} : Qt s (Q4c E s a d x (fun v st' => some (v, st'))) := by
  unfold Q4c; repeat' (first | with_reducible exact Qt.none | with_reducible exact Qt.here | with_reducible exact Qkj | with_reducible refine Qt.chk ?_ | split)
theorem Qch {src : List (Nat × Src E.S.K)} : ∀ {l : List BS} {i : Nat}, Q9s l = false → QN (S := E.S) src i l = []
  | [], _, _ => rfl
  | .var true _ :: l, _, h => by cases h
  | .vec _ :: l, _, h => by cases h
  | .var false _ :: l, i, h => by simp only [QN]; exact Qch (l := l) (by simpa [Q9s] using h)
  | .gone :: l, i, h => by simp only [QN]; exact Qch (l := l) (by simpa [Q9s] using h)
theorem Qc7 {src : List (Nat × Src E.S.K)} {H : List (Nat × Blk E.S.K)} : ∀ {l : List BS} {i : Nat} {bs : List (Option (Blk E.S.K))} {r : List (Nat × Blk E.S.K)}, Q9s l = false → Q3d src H i l bs = some r → r = []
  | [], _, _, _, _, h => by simp only [Q3d] at h; cases h; rfl
  | .var true _ :: l, _, _, _, h, _ => by cases h
  | .vec _ :: l, _, _, _, h, _ => by cases h
  | .var false _ :: l, i, [], r, h, hb => by simp [Q3d] at hb
  | .var false _ :: l, i, _ :: bs, r, h, hb => Qc7 (l := l) (by simpa [Q9s] using h) (by simpa only [Q3d] using hb)
  | .gone :: l, i, [], r, h, hb => by simp [Q3d] at hb
  | .gone :: l, i, _ :: bs, r, h, hb => Qc7 (l := l) (by simpa [Q9s] using h) (by simpa only [Q3d] using hb)
theorem QqU {o : Orc E} {g m : Nat} {args : List (FV E.S.K)} (hq : ∀ A, E.ann g m = some A → (Q9s A.inL.blocks || Q0R E.S A) = false) : Qt s (Q9h E o s g m args (fun v st' => some (v, st'))) := by
  unfold Q9h
  split
  · exact Qt.none
  · next A hA =>
    have hq := hq A hA
    simp only [Bool.or_eq_false_iff] at hq
    refine Qt.chk ?_
    split
    · exact Qt.none
    · split
      · exact Qt.none
      · refine Qt.sbind (fun r => ?_)
        split
        · exact Qt.none
        · split
          · exact Qt.none
          · next H' hu =>
            intro v st' h id hid
            simp only [Option.some.injEq, Prod.mk.injEq] at h
            obtain ⟨_, rfl⟩ := h
            have hu' : ∃ b, b = Q66 A.outL.blocks := ⟨_, rfl⟩
            cases hn : Q66 A.outL.blocks with
            | false => rw [hn] at hu; cases hu
            | true =>
              rw [hn, hq.2] at hu
              dsimp only [Ve.chk, Ve.sel] at hu
              unfold QfE at hu
              split at hu
              · next l hl =>
                cases hu
                rw [Qc7 hq.1 hl, Qch hq.1]
                show get (_ ++ ([] ++ _)) id = _
                rw [get_append]
                split
                · next b hb =>
                  obtain ⟨q, h1, _⟩ := QbM hb
                  omega
                · rfl
              · cases hu
theorem QpA {o : Orc E} {site : Nat → Nat} {op : Oper} (hq : loud E site s op = false) {v : SV E.S.K} {st' : St E.S.K} (h : pt o site s op = some (v, st')) : ∀ id, id < s.nx → get st'.heap id = get s.heap id := by
  have key : Qt s (pt o site s op) := by
    unfold pt dop
    unfold loud at hq
    split
    all_goals (try (rename_i heq; rw [heq] at hq))
    all_goals try dsimp only at hq
    all_goals first
      | (exact absurd hq (by decide))
      | skip
    all_goals repeat' (first
      | with_reducible exact Qt.none | with_reducible exact Qt.here
      | with_reducible refine Qt.sif ?_ ?_ | with_reducible refine Qt.sbind (fun _ => ?_)
      | with_reducible exact QpK | with_reducible exact Qkj
      | with_reducible refine QqB (fun _ => ?_) | with_reducible refine Qn1 (fun _ => ?_) | with_reducible refine QpL (fun _ => ?_)
      | with_reducible exact QmN | with_reducible refine QpU (fun _ => ?_) | with_reducible refine QkE (fun _ => ?_) | with_reducible refine Qrq (fun _ => ?_)
      | with_reducible refine Qt.chk ?_ | with_reducible refine Qt.sel ?_ ?_ | split)
    all_goals first
      | exact absurd (show true = false from hq) (by decide)
      | (refine QqU (fun A hA => ?_)
         simp_all)
  exact key v st' h
end
end Go.Ve
namespace Go.Ve
set_option linter.unusedVariables false
set_option linter.unusedSimpArgs false
def Closed (ops : Array Oper) (L : Nat → Bool) : Prop := ∀ j o, L j = true → ops[j]? = some o → ∀ e ∈ o.after, Region.binds .any e = true → L e.on = true
def more (L : Nat → Bool) (i : Nat) : Nat → Bool := fun j => if j = i then true else L j
theorem Qh4 {acc : List (Nat × Nat)} : ∀ {es : List Edge} {i : Nat}, (mask acc es).testBit i = true → ∃ e ∈ es, Region.binds .any e = true ∧ (i = e.on ∨ ((get acc e.on).getD 0).testBit i = true)
  | [], i, h => by simp [mask] at h
  | e :: l, i, h => by
    unfold mask at h
    split at h
    · next hb =>
      rw [Nat.testBit_or, Nat.testBit_or, Nat.testBit_two_pow] at h
      simp only [Bool.or_eq_true, decide_eq_true_eq] at h
      rcases h with (h | h) | h
      · exact ⟨e, by simp, hb, .inl h.symm⟩
      · exact ⟨e, by simp, hb, .inr h⟩
      · obtain ⟨e', h1, h2⟩ := Qh4 h
        exact ⟨e', List.mem_cons_of_mem _ h1, h2⟩
    · obtain ⟨e', h1, h2⟩ := Qh4 h
      exact ⟨e', List.mem_cons_of_mem _ h1, h2⟩
theorem Qk2 {ops : Array Oper} {L : Nat → Bool} (hL : Closed ops L) : ∀ (l : List Oper) (j : Nat) (acc : List (Nat × Nat)), (∀ q, l[q]? = ops[j + q]?) → (∀ m x i, get acc m = some x → x.testBit i = true → L m = true → L i = true) →
    ∀ m x i, get (masks l j acc) m = some x → x.testBit i = true → L m = true → L i = true
  | [], j, acc, _, ha => ha
  | o :: l, j, acc, hl, ha => by
    refine Qk2 hL l (j + 1) _ (fun q => by have := hl (q + 1); rw [List.getElem?_cons_succ] at this; rw [this]; congr 1; omega) ?_
    intro m x i hm hx hLm
    rw [Qw] at hm
    split at hm
    · next he =>
      cases hm
      subst he
      obtain ⟨e, h1, h2, h3⟩ := Qh4 hx
      have ho : ops[m]? = some o := by have := hl 0; simpa using this.symm
      have hon := hL m o hLm ho e (by simpa using h1) h2
      rcases h3 with rfl | h3
      · exact hon
      · cases hg : get acc e.on with
        | none => rw [hg] at h3; simp at h3
        | some y => rw [hg] at h3; exact ha e.on y i hg h3 hon
    · exact ha m x i hm hx hLm
theorem Q4T {ops : Array Oper} {L : Nat → Bool} (hL : Closed ops L) {i j : Nat} (hb : bit (masks ops.toList 0 []) i j = true) (hj : L j = true) : L i = true := by
  unfold bit at hb
  cases hg : get (masks ops.toList 0 []) j with
  | none => rw [hg] at hb; simp at hb
  | some x => rw [hg] at hb; exact Qk2 hL ops.toList 0 [] (fun q => by simp) (fun m x i h => by simp [get] at h) j x i hg hb hj
theorem QjR {ops : Array Oper} {b : List (Nat × Nat)} {j : Nat} {y : Oper} : ∀ {l : List Oper} {i : Nat}, QbL ops b j y i l = true → ∀ {q : Nat} {x : Oper}, l[q]? = some x → bit b j (i + q) = true ∨ x.apart ops y = true
  | [], _, _, _, _, h => by simp at h
  | x0 :: l, i, h, 0, x, hx => by
    simp only [QbL, Bool.and_eq_true, Bool.or_eq_true] at h
    simp at hx; subst hx; exact h.1
  | x0 :: l, i, h, q + 1, x, hx => by
    simp only [QbL, Bool.and_eq_true, Bool.or_eq_true] at h
    have := QjR h.2 (q := q) (by simpa using hx)
    rwa [show i + 1 + q = i + (q + 1) by omega] at this
theorem Qqy {ops : Array Oper} {b : List (Nat × Nat)} (l : List Oper) : ∀ (k : Nat), Qbw ops b k l = true → ∀ (p q : Nat) (x y : Oper), p < q → l[p]? = some y → l[q]? = some x → bit b (k + p) (k + q) = true ∨ x.apart ops y = true := by
  induction l with
  | nil => intro k _ p q x y _ h; simp at h
  | cons y0 l ih =>
    intro k h p q x y hpq hy hx
    simp only [Qbw, Bool.and_eq_true] at h
    obtain ⟨q, rfl⟩ : ∃ q', q = q' + 1 := ⟨q - 1, by omega⟩
    have hx' : l[q]? = some x := by simpa using hx
    cases p with
    | zero =>
      have e : y0 = y := by simpa using hy
      subst e
      have := QjR h.1 hx'
      rwa [show k + 1 + q = k + (q + 1) by omega] at this
    | succ p =>
      have := ih (k + 1) h.2 p q x y (by omega) (by simpa using hy) hx'
      rwa [show k + 1 + p = k + (p + 1) by omega, show k + 1 + q = k + (q + 1) by omega] at this
theorem Qll : ∀ {l : List Oper} {k : Nat}, Q9T k l = true → ∀ {q : Nat} {o : Oper}, l[q]? = some o → ∀ e ∈ o.after, Region.binds .any e = true → e.on < k + q
  | [], _, _, _, _, h => by simp at h
  | y :: l, k, h, 0, o, ho => by
    simp only [Q9T, Bool.and_eq_true, List.all_eq_true] at h
    simp at ho; subst ho
    intro e he hb
    have := h.1 e (Array.mem_toList_iff.2 he)
    rw [hb] at this
    have : e.on < k := by simpa using this
    omega
  | y :: l, k, h, q + 1, o, ho => by
    simp only [Q9T, Bool.and_eq_true] at h
    intro e he hb
    have := Qll h.2 (q := q) (by simpa using ho) e he hb
    omega
theorem QcR {ops : Array Oper} {L : Nat → Bool} (h : Closed ops L) {i : Nat} (hi : ∀ o : Oper, ops[i]? = some o → ∀ e ∈ o.after, Region.binds .any e = true → L e.on = true) : Closed ops (more L i) := by
  intro j o hj ho e he hb
  unfold more at hj ⊢
  split
  · rfl
  · split at hj
    · next hji => subst hji; exact hi o ho e he hb
    · exact h j o hj ho e he hb
theorem Qoa {P : Program} {ops : Array Oper} {Q : Exit → Act → World → Prop} (hE : ∀ (j : Nat) (o : Oper), ops[j]? = some o → ∀ e ∈ o.after, Region.binds .any e = true → e.on < j) (I : (Nat → Bool) → Act → World → Prop)
    (step : ∀ (L : Nat → Bool) (i : Nat) (o : Oper) (a : Act) (w : World), ops[i]? = some o → L i = false → Closed ops L → (∀ e ∈ o.after, Region.binds .any e = true → L e.on = true) → (∀ j, L j = true → j < ops.size) → I L a w → wpOp P ops Q i (I (more L i)) a w)
    (fin : ∀ (L : Nat → Bool) (a : Act) (w : World), (∀ j, j < ops.size ↔ L j = true) → I L a w → Q .normal a w) :
    ∀ (fuel : Nat) (listed : Array Bool) (a : Act) (w : World), listed.size = ops.size → Closed ops (fun j => listed.getD j false) → I (fun j => listed.getD j false) a w →
      ((List.range ops.size).filter fun j => !listed.getD j false).length ≤ fuel → wpAny P .any ops Q fuel listed a w := by
  have none_ready : ∀ (listed : Array Bool), listed.size = ops.size → Region.ready .any ops listed = [] → ∀ j, j < ops.size → listed.getD j false = true := by
    intro listed hs hr j
    induction j using Nat.strongRecOn with
    | _ j ih =>
      intro hj
      cases hl : listed.getD j false with
      | true => rfl
      | false =>
        have : j ∈ Region.ready .any ops listed := mem_ready.2 ⟨by
          rw [Array.getD_eq_getD_getElem?] at hl ⊢
          rw [Array.getElem?_eq_getElem (by omega)] at hl ⊢
          exact hl, ops[j], Array.getElem?_eq_getElem hj, fun e he hb => ih e.on (hE j _ (Array.getElem?_eq_getElem hj) e he hb) (by have := hE j _ (Array.getElem?_eq_getElem hj) e he hb; omega)⟩
        rw [hr] at this
        cases this
  have fin' : ∀ (listed : Array Bool) a w, listed.size = ops.size → Region.ready .any ops listed = [] → I (fun j => listed.getD j false) a w → Q .normal a w := fun listed a w hs hr hI =>
    fin _ a w (fun j => ⟨none_ready listed hs hr j, fun h => by
      rcases Nat.lt_or_ge j listed.size with hlt | hge
      · omega
      · rw [Array.getD_eq_getD_getElem?, Array.getElem?_eq_none hge] at h; cases h⟩) hI
  intro fuel
  induction fuel with
  | zero =>
    intro listed a w hs hC hI hf
    have hnil := List.eq_nil_of_length_eq_zero (Nat.le_zero.1 hf)
    have hr : Region.ready .any ops listed = [] := by
      cases hr : Region.ready .any ops listed with
      | nil => rfl
      | cons x l =>
        have hx : x ∈ Region.ready .any ops listed := by rw [hr]; simp
        obtain ⟨h1, o, ho, _⟩ := mem_ready.1 hx
        have hlt : x < ops.size := (Array.getElem?_eq_some_iff.1 ho).1
        have : x ∈ (List.range ops.size).filter fun j => !listed.getD j false := List.mem_filter.2 ⟨List.mem_range.2 hlt, by
          rw [Array.getD_eq_getD_getElem?] at h1 ⊢
          rw [Array.getElem?_eq_getElem (by omega)] at h1 ⊢
          simpa using h1⟩
        rw [hnil] at this
        cases this
    exact ⟨hr, fin' listed a w hs hr hI⟩
  | succ fuel ih =>
    intro listed a w hs hC hI hf
    refine ⟨fun hr => fin' listed a w hs hr hI, fun i hi => ?_⟩
    obtain ⟨h1, o, ho, hall⟩ := mem_ready.1 hi
    have hlt : i < ops.size := (Array.getElem?_eq_some_iff.1 ho).1
    have hli : listed.getD i false = false := by
      rw [Array.getD_eq_getD_getElem?] at h1 ⊢
      rw [Array.getElem?_eq_getElem (by omega)] at h1 ⊢
      exact h1
    have hfun : (fun j => (listed.setIfInBounds i true).getD j false) = more (fun j => listed.getD j false) i := by
      funext j
      unfold more
      by_cases hj : j = i
      · subst hj; simp [hs, hlt]
      · rw [if_neg hj, getD_set_ne false (Ne.symm hj)]
    refine wpOp_mono (fun a' w' h => ?_) (step _ i o a w ho hli hC hall (fun j hj => by
      rcases Nat.lt_or_ge j listed.size with h | h
      · omega
      · rw [Array.getD_eq_getD_getElem?, Array.getElem?_eq_none h] at hj; cases hj) hI)
    refine ih _ a' w' (by simp [hs]) ?_ ?_ ?_
    · rw [hfun]; exact QcR hC (fun o' ho' => by rw [ho] at ho'; cases ho'; exact hall)
    · rw [hfun]; exact h
    · have hsub : ((List.range ops.size).filter fun j => !(listed.setIfInBounds i true).getD j false) = ((List.range ops.size).filter fun j => !listed.getD j false).filter (fun j => j != i) := by
        rw [List.filter_filter]
        refine List.filter_congr fun j _ => ?_
        have := congrFun hfun j
        rw [this]
        unfold more
        by_cases hj : j = i
        · subst hj; simp
        · simp [hj]
      have hmem : i ∈ (List.range ops.size).filter fun j => !listed.getD j false := List.mem_filter.2 ⟨List.mem_range.2 hlt, by simp [hli]⟩
      have hlen := List.length_filter_lt_length_iff_exists (p := fun j => j != i) (l := (List.range ops.size).filter fun j => !listed.getD j false)
      rw [hsub]
      have := hlen.2 ⟨i, hmem, by simp⟩
      omega
end Go.Ve
namespace Go.Ve
set_option linter.unusedVariables false
set_option linter.unusedSimpArgs false
section
variable {K : Nat → Type}
def Rf (sl sl' : List (Nat × SV K)) : Prop := ∀ t, get sl' t = get sl t ∨ ∃ b, get sl t = some (.v (.c (.bool b))) ∧ get sl' t = some (.v (.c (.lit b)))
def Want (ops : Array Oper) (o : Oper) (sl : List (Nat × SV K)) (b : Bool) : Prop :=
  match o.guard with
  | none => b = true
  | some (j, want) => ∃ oj d, ops[j]? = some oj ∧ oj.dst = some d ∧ ((∃ c, get sl d = some (.v (.c (.lit c))) ∧ b = (c == want)) ∨ (get sl d = some (.t []) ∧ b = false))
end
section
variable {E : Env} {R : Type}
theorem Rf.refl {K : Nat → Type} (sl : List (Nat × SV K)) : Rf sl sl := fun _ => .inl rfl
theorem Rf.lit {K : Nat → Type} {sl : List (Nat × SV K)} {d : Nat} {b : Bool} (h : get sl d = some (.v (.c (.bool b)))) : Rf sl (put sl d (.v (.c (.lit b)))) := fun t => by
  rw [get_put]
  split
  · next he => subst he; exact .inr ⟨b, h, rfl⟩
  · exact .inl rfl
theorem Qqd {st : St E.S.K} {ops : Array Oper} {o : Oper} {yes no : St E.S.K → Option R} {r : R} (h : Qbs E st ops o yes no = some r) :
    ∃ sl b, Rf st.slots sl ∧ Want ops o sl b ∧ (b = true → yes { st with slots := sl } = some r) ∧ (b = false → no { st with slots := sl } = some r) := by
  unfold Qbs at h
  unfold Want
  split at h
  · next hg => rw [hg]; exact ⟨st.slots, true, Rf.refl _, rfl, fun _ => h, fun h => by cases h⟩
  · next j want hg =>
    rw [hg]
    dsimp only
    split at h
    · next oj hj =>
      split at h
      · next d hd =>
        split at h
        · next b hb =>
          have hget : ∀ c, get (put st.slots d (.v (.c (.lit c)))) d = some (.v (.c (.lit c)) : SV E.S.K) := fun c => by rw [get_put, if_pos rfl]
          refine ⟨put st.slots d (.v (.c (.lit b))), b == want, Rf.lit hb, ⟨oj, d, hj, hd, .inl ⟨b, hget b, rfl⟩⟩, ?_⟩
          cases b <;> cases want <;> dsimp only [sif] at h
          · exact ⟨fun _ => h, fun h => by cases h⟩
          · exact ⟨fun h => (by cases h), fun _ => h⟩
          · exact ⟨fun h => (by cases h), fun _ => h⟩
          · exact ⟨fun _ => h, fun h => by cases h⟩
        · next b hb =>
          refine ⟨st.slots, b == want, Rf.refl _, ⟨oj, d, hj, hd, .inl ⟨b, hb, rfl⟩⟩, ?_⟩
          cases b <;> cases want <;> dsimp only at h
          · exact ⟨fun _ => h, fun h => by cases h⟩
          · exact ⟨fun h => (by cases h), fun _ => h⟩
          · exact ⟨fun h => (by cases h), fun _ => h⟩
          · exact ⟨fun _ => h, fun h => by cases h⟩
        · next hb => exact ⟨st.slots, false, Rf.refl _, ⟨oj, d, hj, hd, .inr ⟨hb, rfl⟩⟩, fun h => (by cases h), fun _ => h⟩
        · cases h
      · cases h
    · cases h
structure Ev (K : Nat → Type) where
  o : Oper
  sl : List (Nat × SV K)
  w : Bool
  v : SV K
  st : St K
variable (E) in
structure Did (orc : Orc E) (A : Q04) (ops : Array Oper) (i : Nat) (s : St E.S.K) (e : Ev E.S.K) (s' : St E.S.K) : Prop where
  op : ops[i]? = some e.o
  rf : Rf s.slots e.sl
  want : Want ops e.o e.sl e.w
  yes : e.w = true → pt orc A.site (view (foot e.o { s with slots := e.sl }) e.o { s with slots := e.sl }) e.o = some (e.v, e.st) ∧ stays (foot e.o { s with slots := e.sl }) e.o (view (foot e.o { s with slots := e.sl }) e.o { s with slots := e.sl }) e.st e.v = true ∧
    Q4i (QnD (foot e.o { s with slots := e.sl }) { s with slots := e.sl } e.st) A.fn.ntmps e.o.dst e.v = some s'
  no : e.w = false → e.v = .t [] ∧ Q4i { s with slots := e.sl } A.fn.ntmps e.o.dst (.t []) = some s'
variable (E) in
def trOf (A : Q04) (i : Nat) (s : St E.S.K) (e : Ev E.S.K) : Tr := ⟨i, foot e.o { s with slots := e.sl }, loud E A.site (view (foot e.o { s with slots := e.sl }) e.o { s with slots := e.sl }) e.o, s.nx, e.st.nx⟩
theorem Qhr {orc : Orc E} {A : Q04} {ops : Array Oper} {k : St E.S.K → Option R} {r : R} : ∀ (l : List Nat) {tr : List Tr} {st : St E.S.K}, Qap E orc A ops l tr st k = some r →
    ∃ (ss : Nat → St E.S.K) (ev : Nat → Ev E.S.K), ss 0 = st ∧ (∀ q i, l[q]? = some i → Did E orc A ops i (ss q) (ev q) (ss (q + 1))) ∧ k (ss l.length) = some r ∧
      Q9T 0 ops.toList = true ∧ Qbw ops (masks ops.toList 0 []) 0 ops.toList = true ∧ trOk (masks ops.toList 0 []) tr = true ∧
      (∀ q q' i i', q < q' → l[q]? = some i → l[q']? = some i' → (ev q).w = true → (ev q').w = true → QdB (masks ops.toList 0 []) (trOf E A i (ss q) (ev q)) (trOf E A i' (ss q') (ev q')) = true) ∧
      (∀ x q i, x ∈ tr → l[q]? = some i → (ev q).w = true → QdB (masks ops.toList 0 []) x (trOf E A i (ss q) (ev q)) = true)
  | [], tr, st, h => by
    unfold Qap at h
    cases hd : Qm2 ops tr with
    | false => rw [hd] at h; cases h
    | true =>
      rw [hd] at h
      unfold Qm2 at hd
      simp only [Bool.and_eq_true] at hd
      exact ⟨fun _ => st, fun _ => ⟨default, [], false, .t [], st⟩, rfl, fun q i hq => by simp at hq, h, hd.1.1, hd.1.2, hd.2, fun q q' i i' _ hq => by simp at hq, fun x q i _ hq => by simp at hq⟩
  | i :: rest, tr, st, h => by
    unfold Qap at h
    split at h
    · next o ho =>
      obtain ⟨sl, b, hrf, hw, hy, hn⟩ := Qqd h
      cases b with
      | true =>
        obtain ⟨v, st', hp, hk⟩ := QrX (hy rfl)
        dsimp only at hk
        cases hs : stays (foot o { st with slots := sl }) o (view (foot o { st with slots := sl }) o { st with slots := sl }) st' v with
        | false => rw [hs] at hk; cases hk
        | true =>
          rw [hs] at hk
          dsimp only [chk] at hk
          split at hk
          · next st2 hset =>
            obtain ⟨ss, ev, h1, h2, h3, h4, h5, h6, h7, h8⟩ := Qhr rest hk
            have htr : trOk (masks ops.toList 0 []) tr = true ∧ ∀ x ∈ tr, QdB (masks ops.toList 0 []) x ⟨i, foot o { st with slots := sl }, loud E A.site (view (foot o { st with slots := sl }) o { st with slots := sl }) o, st.nx, st'.nx⟩ = true := by
              simp only [trOk, Bool.and_eq_true, List.all_eq_true] at h6
              exact ⟨h6.2, h6.1⟩
            refine ⟨fun q => match q with | 0 => st | q + 1 => ss q, fun q => match q with | 0 => ⟨o, sl, true, v, st'⟩ | q + 1 => ev q, rfl, ?_, ?_, h4, h5, htr.1, ?_, ?_⟩
            · intro q j hq
              cases q with
              | zero =>
                have : i = j := by simpa using hq
                subst this
                exact ⟨ho, hrf, hw, fun _ => ⟨hp, hs, by dsimp only; rw [h1]; exact hset⟩, fun h => by cases h⟩
              | succ q => exact h2 q j (by simpa using hq)
            · simpa using h3
            · intro q q' j j' hlt hq hq' hwq hwq'
              obtain ⟨q', rfl⟩ : ∃ x, q' = x + 1 := ⟨q' - 1, by omega⟩
              cases q with
              | zero =>
                have : i = j := by simpa using hq
                subst this
                exact h8 _ q' j' (by simp [trOf]) (by simpa using hq') hwq'
              | succ q => exact h7 q q' j j' (by omega) (by simpa using hq) (by simpa using hq') hwq hwq'
            · intro x q j hx hq hwq
              cases q with
              | zero =>
                have : i = j := by simpa using hq
                subst this
                exact htr.2 x hx
              | succ q => exact h8 x q j (List.mem_cons_of_mem _ hx) (by simpa using hq) hwq
          · cases hk
      | false =>
        have hk := hn rfl
        split at hk
        · next st2 hset =>
          obtain ⟨ss, ev, h1, h2, h3, h4, h5, h6, h7, h8⟩ := Qhr rest hk
          refine ⟨fun q => match q with | 0 => st | q + 1 => ss q, fun q => match q with | 0 => ⟨o, sl, false, .t [], st⟩ | q + 1 => ev q, rfl, ?_, ?_, h4, h5, h6, ?_, ?_⟩
          · intro q j hq
            cases q with
            | zero =>
              have : i = j := by simpa using hq
              subst this
              exact ⟨ho, hrf, hw, fun h => (by cases h), fun _ => ⟨rfl, by dsimp only; rw [h1]; exact hset⟩⟩
            | succ q => exact h2 q j (by simpa using hq)
          · simpa using h3
          · intro q q' j j' hlt hq hq' hwq hwq'
            obtain ⟨q', rfl⟩ : ∃ x, q' = x + 1 := ⟨q' - 1, by omega⟩
            cases q with
            | zero => cases hwq
            | succ q => exact h7 q q' j j' (by omega) (by simpa using hq) (by simpa using hq') hwq hwq'
          · intro x q j hx hq hwq
            cases q with
            | zero => cases hwq
            | succ q => exact h8 x q j hx (by simpa using hq) hwq
        · cases hk
    · cases h
end
end Go.Ve
namespace Go.Ve
set_option linter.unusedVariables false
set_option linter.unusedSimpArgs false
def updG {K : Nat → Type} (F : List Nat) (h : List (Nat × Blk K)) (g : Nat → Option (Blk K)) (id : Nat) : Option (Blk K) :=
  match get h id with
  | some b => some b
  | none =>
    match mem id F with
    | true => none
    | false => g id
theorem Qdz {K : Nat → Type} {F : List Nat} {h : List (Nat × Blk K)} {g : Nat → Option (Blk K)} {id : Nat} (hm : id ∈ F) : updG F h g id = get h id := by
  unfold updG
  rw [(mem_iff id F).2 hm]
  cases get h id <;> rfl
theorem QrU {id : Nat} {F : List Nat} (hm : id ∉ F) : mem id F = false := by
  cases h : mem id F with
  | false => rfl
  | true => exact absurd ((mem_iff id F).1 h) hm
theorem QbB {K : Nat → Type} {F : List Nat} {h : List (Nat × Blk K)} {g : Nat → Option (Blk K)} {id : Nat} (hm : id ∉ F) (hg : get h id = none) : updG F h g id = g id := by
  unfold updG
  rw [QrU hm, hg]
theorem Qf2 {K : Nat → Type} {F : List Nat} {h : List (Nat × Blk K)} {g g' : Nat → Option (Blk K)} {id : Nat} (hg : g id = g' id) : updG F h g id = updG F h g' id := by
  unfold updG; rw [hg]
theorem QbF {K : Nat → Type} (F : List Nat) (yes : Bool) (id : Nat) : ∀ l : List (Nat × Blk K), get (part F yes l) id = if mem id F = yes then get l id else none
  | [] => by simp [part, get]
  | (i, b) :: r => by
    have ih := QbF F yes id r
    unfold part
    by_cases he : id = i
    · subst he
      cases hm : mem id F <;> cases yes <;> rw [hm] at ih <;> simp [Qw, ih]
    · cases hm : mem i F <;> cases yes <;> simp [Qw, he, ih]
theorem Qfr {n : Nat} : ∀ {l : List Nat}, Qip n l = true → ∀ a ∈ l, a < n
  | [], _, a, h => by cases h
  | x :: l, h, a, ha => by
    simp only [Qip, Bool.and_eq_true] at h
    rcases List.mem_cons.1 ha with rfl | ha
    · exact Nat.le_of_ble_eq_true h.1
    · exact Qfr h.2 a ha
theorem Qke {U : List Nat} {lo hi : Nat} : ∀ {l : List Nat}, allIn U lo hi l = true → ∀ a ∈ l, a ∈ U ∨ (lo ≤ a ∧ a < hi)
  | [], _, a, h => by cases h
  | x :: l, h, a, ha => by
    simp only [allIn, Bool.and_eq_true, Bool.or_eq_true] at h
    rcases List.mem_cons.1 ha with rfl | ha
    · rcases h.1 with h | h
      · exact .inl ((mem_iff _ _).1 h)
      · exact .inr ⟨Nat.le_of_ble_eq_true h.1, Nat.le_of_ble_eq_true h.2⟩
    · exact Qke h.2 a ha
theorem QhM {lo hi : Nat} : ∀ {l : List Nat}, Qix lo hi l = true → ∀ a ∈ l, ¬ (lo ≤ a ∧ a < hi)
  | [], _, a, h => by cases h
  | x :: l, h, a, ha => by
    simp only [Qix, Bool.and_eq_true, Bool.not_eq_true'] at h
    rcases List.mem_cons.1 ha with rfl | ha
    · rintro ⟨h1, h2⟩
      have := h.1
      rw [Nat.ble_eq_true_of_le h1, show Nat.blt a hi = true from Nat.ble_eq_true_of_le h2] at this
      cases this
    · exact QhM h.2 a ha
theorem QiL {K : Nat → Type} {P : List (Nat × Blk K)} {lo hi : Nat} : ∀ {l : List (Nat × Blk K)}, QiB P lo hi l = true → ∀ {id : Nat} {b : Blk K}, get l id = some b →
    (∃ b0, get P id = some b0 ∧ ∀ cs, b = .var false cs → ∃ own cs0, b0 = .var own cs0 ∧ cs.length = cs0.length) ∨ (get P id = none ∧ lo ≤ id ∧ id < hi ∧ ∀ cs, b ≠ .var false cs)
  | [], _, id, b, h => by simp [get] at h
  | (i, b1) :: l, h, id, b, hb => by
    simp only [QiB, Bool.and_eq_true] at h
    rw [Qw] at hb
    split at hb
    · next he =>
      cases hb
      subst he
      have h1 := h.1
      split at h1
      · next b0 hb0 =>
        refine .inl ⟨b0, hb0, fun cs hc => ?_⟩
        subst hc
        cases b0 with
        | var own cs0 => exact ⟨own, cs0, rfl, Q03 h1⟩
        | vec _ _ _ => cases h1
      · next hb0 =>
        simp only [Bool.and_eq_true] at h1
        refine .inr ⟨hb0, Nat.le_of_ble_eq_true h1.1.1, Nat.le_of_ble_eq_true h1.1.2, fun cs hc => ?_⟩
        subst hc
        cases h1.2
    · exact QiL h.2 hb
def Rfo {K : Nat → Type} (a b : Option (SV K)) : Prop := b = a ∨ ∃ c, a = some (.v (.c (.bool c))) ∧ b = some (.v (.c (.lit c)))
theorem Rfo.trans {K : Nat → Type} {a b c : Option (SV K)} (h : Rfo a b) (h' : Rfo b c) : Rfo a c := by
  rcases h with rfl | ⟨x, rfl, rfl⟩
  · exact h'
  · rcases h' with rfl | ⟨y, h1, h2⟩
    · exact .inr ⟨x, rfl, rfl⟩
    · cases h1
structure Hst (E : Env) (orc : Orc E) (A : Q04) (ops : Array Oper) (ss : Nat → St E.S.K) (ev : Nat → Ev E.S.K) : Prop where
  did : ∀ q, q < ops.size → Did E orc A ops q (ss q) (ev q) (ss (q + 1))
  eok : Q9T 0 ops.toList = true
  sok : Qbw ops (masks ops.toList 0 []) 0 ops.toList = true
  pr : ∀ q q', q < q' → q' < ops.size → (ev q).w = true → (ev q').w = true → QdB (masks ops.toList 0 []) (trOf E A q (ss q) (ev q)) (trOf E A q' (ss q') (ev q')) = true
section
variable {E : Env} {orc : Orc E} {A : Q04} {ops : Array Oper} {ss : Nat → St E.S.K} {ev : Nat → Ev E.S.K}
variable (ss ev) in
def ftp (q : Nat) : List Nat := foot (ev q).o { ss q with slots := (ev q).sl }
variable (ss ev) in
def G (L : Nat → Bool) : Nat → Nat → Option (Blk E.S.K)
  | 0 => get (ss 0).heap
  | m + 1 => if (L m && (ev m).w) = true then updG (ftp ss ev m) (ev m).st.heap (G L m) else G L m
variable (ss ev) in
def V (L : Nat → Bool) : Nat → Nat → Option (SV E.S.K)
  | 0 => get (ss 0).slots
  | m + 1 => fun t => if L m = true ∧ (ev m).o.dst = some t then some (ev m).v else V L m t
variable (H : Hst E orc A ops ss ev)
include H
theorem Hst.set {q : Nat} (hq : q < ops.size) : (∀ id, get (ss (q + 1)).heap id = if (ev q).w = true then updG (ftp ss ev q) (ev q).st.heap (get (ss q).heap) id else get (ss q).heap id) ∧
    (ss (q + 1)).nx = (if (ev q).w = true then (ev q).st.nx else (ss q).nx) ∧ ∀ t, get (ss (q + 1)).slots t = if (ev q).o.dst = some t then some (ev q).v else get (ev q).sl t := by
  have hd := H.did q hq
  have key : ∀ (st st2 : St E.S.K) (v : SV E.S.K), Q4i st A.fn.ntmps (ev q).o.dst v = some st2 → st2.heap = st.heap ∧ st2.nx = st.nx ∧ ∀ t, get st2.slots t = if (ev q).o.dst = some t then some v else get st.slots t := fun st st2 v h => by
    unfold Q4i at h
    split at h
    · next hd => cases h; exact ⟨rfl, rfl, fun t => by rw [if_neg (fun e => by rw [hd] at e; cases e)]⟩
    · next d hd =>
      cases hb : Nat.blt d A.fn.ntmps with
      | false => rw [hb] at h; cases h
      | true =>
        rw [hb] at h
        cases h
        refine ⟨rfl, rfl, fun t => ?_⟩
        dsimp only
        rw [get_put]
        by_cases ht : t = d
        · subst ht; rw [if_pos rfl, if_pos hd]
        · rw [if_neg ht, if_neg (fun e => ht (Option.some.inj (hd.symm.trans e)).symm)]
  cases hw : (ev q).w with
  | true =>
    obtain ⟨_, _, hset⟩ := hd.yes hw
    obtain ⟨h1, h2, h3⟩ := key _ _ _ hset
    refine ⟨fun id => ?_, by rw [h2]; rfl, h3⟩
    rw [h1, if_pos rfl]
    show get (_ ++ part _ false _) id = _
    rw [get_append, QbF]
    unfold updG ftp
    split
    · next b hb => rw [hb]
    · next hb =>
      rw [hb]
      dsimp only
      cases mem id (foot (ev q).o { ss q with slots := (ev q).sl }) <;> simp
  | false =>
    obtain ⟨hv, hset⟩ := hd.no hw
    obtain ⟨h1, h2, h3⟩ := key _ _ _ hset
    exact ⟨fun id => by rw [h1]; rfl, by rw [h2]; rfl, fun t => by rw [h3, hv]⟩
theorem Hst.stays {q : Nat} (hq : q < ops.size) (hw : (ev q).w = true) : (∀ id ∈ ftp ss ev q, id < (ss q).nx) ∧ (ss q).nx ≤ (ev q).st.nx ∧
    (∀ id b, get (ev q).st.heap id = some b → (id ∈ ftp ss ev q ∧ ∃ b0, get (ss q).heap id = some b0 ∧ ∀ cs, b = .var false cs → ∃ own cs0, b0 = .var own cs0 ∧ cs.length = cs0.length) ∨ ((ss q).nx ≤ id ∧ id < (ev q).st.nx ∧ ∀ cs, b ≠ .var false cs)) := by
  obtain ⟨_, hs, _⟩ := (H.did q hq).yes hw
  unfold Ve.stays at hs
  simp only [Bool.and_eq_true] at hs
  obtain ⟨⟨⟨⟨h1, _⟩, h3⟩, _⟩, h5⟩ := hs
  refine ⟨fun id hid => Qfr h1 id hid, Nat.le_of_ble_eq_true h3, fun id b hb => ?_⟩
  rcases QiL h5 hb with ⟨b0, g1, g2⟩ | ⟨_, g1, g2, g3⟩
  · have g1' : get (part (ftp ss ev q) true (ss q).heap) id = some b0 := g1
    rw [QbF] at g1'
    split at g1'
    · next hm => exact .inl ⟨(mem_iff _ _).1 hm, b0, g1', g2⟩
    · cases g1'
  · exact .inr ⟨g1, g2, g3⟩
theorem Hst.nx {q q' : Nat} (h : q ≤ q') (hq' : q' ≤ ops.size) : (ss q).nx ≤ (ss q').nx := by
  induction q' with
  | zero => have : q = 0 := by omega
            subst this; exact Nat.le_refl _
  | succ m ih =>
    rcases Nat.lt_or_ge q (m + 1) with hlt | hge
    · refine Nat.le_trans (ih (by omega) (by omega)) ?_
      rw [(H.set (by omega : m < ops.size)).2.1]
      split
      · next hw => exact (H.stays (by omega) hw).2.1
      · exact Nat.le_refl _
    · have : q = m + 1 := by omega
      subst this; exact Nat.le_refl _
theorem Hst.quiet {q : Nat} (hq : q < ops.size) (hw : (ev q).w = true) (hl : (trOf E A q (ss q) (ev q)).w = false) {id : Nat} (hid : id ∈ ftp ss ev q) : get (ev q).st.heap id = get (ss q).heap id := by
  obtain ⟨hp, hs, _⟩ := (H.did q hq).yes hw
  have hlt := (H.stays hq hw).1 id hid
  have hl' : loud E A.site (view (ftp ss ev q) (ev q).o { ss q with slots := (ev q).sl }) (ev q).o = false := by
    rw [← hl]
    rfl
  have := QpA hl' hp id hlt
  rw [this]
  show get (part (ftp ss ev q) true (ss q).heap) id = _
  rw [QbF, if_pos ((mem_iff _ _).2 hid)]
theorem Hst.pair {q q' : Nat} (h : q < q') (hq' : q' < ops.size) (hw : (ev q).w = true) (hw' : (ev q').w = true) (hb : ¬ bit (masks ops.toList 0 []) q q' = true) :
    (((trOf E A q (ss q) (ev q)).w = false ∧ (trOf E A q' (ss q') (ev q')).w = false) ∨ ∀ id, id ∈ ftp ss ev q → id ∈ ftp ss ev q' → False) ∧ ∀ id ∈ ftp ss ev q', ¬ ((ss q).nx ≤ id ∧ id < (ev q).st.nx) := by
  have hp := H.pr q q' h hq' hw hw'
  unfold QdB at hp
  simp only [Bool.or_eq_true, Bool.and_eq_true, Bool.not_eq_true', Bool.or_eq_false_iff] at hp
  rcases hp with hp | ⟨h1, h2⟩
  · exact absurd hp hb
  · refine ⟨?_, fun id hid => QhM h2 id hid⟩
    rcases h1 with h1 | h1
    · exact .inl h1
    · exact .inr fun id a b => Qau h1 a b
theorem Hst.slots {q q' : Nat} (h : q < q') (hq' : q' < ops.size) (hb : ¬ bit (masks ops.toList 0 []) q q' = true) :
    (∀ d, (ev q').o.dst = some d → d ∉ (ev q).o.looksAt ops) ∧ (∀ d, (ev q').o.dst = some d → (ev q).o.dst ≠ some d) ∧ (∀ d, (ev q).o.dst = some d → d ∉ (ev q').o.looksAt ops) := by
  have := Qqy ops.toList 0 H.sok q q' (ev q').o (ev q).o h (by rw [Array.getElem?_toList]; exact (H.did q (by omega)).op) (by rw [Array.getElem?_toList]; exact (H.did q' hq').op)
  rw [Nat.zero_add, Nat.zero_add] at this
  exact Oper.apart_spec (this.resolve_left hb)
end
end Go.Ve
namespace Go.Ve
set_option linter.unusedVariables false
set_option linter.unusedSimpArgs false
section
variable {E : Env} {orc : Orc E} {A : Q04} {ops : Array Oper} {ss : Nat → St E.S.K} {ev : Nat → Ev E.S.K}
variable (H : Hst E orc A ops ss ev)
include H
def Bef (ops : Array Oper) (L : Nat → Bool) (q : Nat) : Prop := ∀ j, bit (masks ops.toList 0 []) j q = true → L j = true
omit H in
theorem Bef.of {L : Nat → Bool} (hL : Closed ops L) {q : Nat} (hq : L q = true) : Bef ops L q := fun j hj => Q4T hL hj hq
omit H in
theorem Bef.ready {L : Nat → Bool} (hL : Closed ops L) {q : Nat} {o : Oper} (ho : ops[q]? = some o) (hr : ∀ e ∈ o.after, Region.binds .any e = true → L e.on = true) : ∀ j, j ≠ q → bit (masks ops.toList 0 []) j q = true → L j = true := by
  intro j hj hb
  have hC : Closed ops (more L q) := QcR hL (fun o' ho' => by rw [ho] at ho'; cases ho'; exact hr)
  have := Q4T hC hb (by simp [more])
  unfold more at this
  rwa [if_neg hj] at this
theorem Hst.skip {j q : Nat} (hjq : j < q) (hq : q < ops.size) (hwj : (ev j).w = true) (hwq : (ev q).w = true) (hb : ¬ bit (masks ops.toList 0 []) j q = true) {id : Nat} (hid : id ∈ ftp ss ev q) : get (ss (j + 1)).heap id = get (ss j).heap id := by
  obtain ⟨h1, h2⟩ := H.pair hjq hq hwj hwq hb
  rw [(H.set (by omega : j < ops.size)).1 id, if_pos hwj]
  by_cases hm : id ∈ ftp ss ev j
  · rw [Qdz hm]
    rcases h1 with h1 | h1
    · exact H.quiet (by omega) hwj h1.1 hm
    · exact (h1 id hm hid).elim
  · refine QbB hm ?_
    cases hg : get (ev j).st.heap id with
    | none => rfl
    | some b =>
      rcases (H.stays (by omega : j < ops.size) hwj).2.2 id b hg with ⟨hm', _⟩ | ⟨g1, g2, _⟩
      · exact absurd hm' hm
      · exact absurd ⟨g1, g2⟩ (h2 id hid)
theorem Hst.keyA {L : Nat → Bool} {q : Nat} (hq : q < ops.size) (hwq : (ev q).w = true) (hB : ∀ j, j ≠ q → bit (masks ops.toList 0 []) j q = true → L j = true) {id : Nat} (hid : id ∈ ftp ss ev q) : ∀ m, m ≤ q → G ss ev L m id = get (ss m).heap id := by
  intro m
  induction m with
  | zero => intro _; rfl
  | succ j ih =>
    intro hj
    have ih := ih (by omega)
    have hset := (H.set (by omega : j < ops.size)).1 id
    show (if (L j && (ev j).w) = true then updG _ _ _ else _ : Nat → Option (Blk E.S.K)) id = _
    cases hw : (ev j).w with
    | false =>
      rw [hw] at hset
      rw [Bool.and_false, if_neg (by decide), ih, hset, if_neg (by decide)]
    | true =>
      rw [hw] at hset
      cases hL : L j with
      | true =>
        rw [Bool.and_true, if_pos rfl, hset, if_pos rfl]
        exact Qf2 ih
      | false =>
        rw [Bool.and_true, if_neg (by decide), ih]
        exact (H.skip (by omega) hq hw hwq (fun hb => by have := hB j (by omega) hb; rw [hL] at this; cases this) hid).symm
theorem Hst.keyB {L : Nat → Bool} (hC : Closed ops L) {q : Nat} (hq : q < ops.size) (hwq : (ev q).w = true) (hL : L q = false) (hB : ∀ j, j ≠ q → bit (masks ops.toList 0 []) j q = true → L j = true) {id : Nat} (hid : id ∈ ftp ss ev q) :
    ∀ m, q ≤ m → m ≤ ops.size → G ss ev L m id = get (ss q).heap id := by
  intro m hm
  induction m with
  | zero =>
    intro _
    have : q = 0 := by omega
    subst this
    rfl
  | succ m ih =>
    intro hms
    rcases Nat.lt_or_ge q (m + 1) with hlt | hge
    · have ih := ih (by omega) (by omega)
      show (if (L m && (ev m).w) = true then updG _ _ _ else _ : Nat → Option (Blk E.S.K)) id = _
      cases hw : (ev m).w with
      | false => rw [Bool.and_false, if_neg (by decide)]; exact ih
      | true =>
        cases hLm : L m with
        | false => rw [Bool.and_true, if_neg (by decide)]; exact ih
        | true =>
          rw [Bool.and_true, if_pos rfl]
          have hqm : q < m := by
            rcases Nat.lt_or_ge q m with h | h
            · exact h
            · have : q = m := by omega
              subst this; rw [hL] at hLm; cases hLm
          have hnb : ¬ bit (masks ops.toList 0 []) q m = true := fun hb => by have := Q4T hC hb hLm; rw [hL] at this; cases this
          obtain ⟨h1, h2⟩ := H.pair hqm (by omega) hwq hw hnb
          have hlt := (H.stays hq hwq).1 id hid
          have hmono := H.nx (Nat.le_of_lt hqm) (by omega)
          by_cases hidm : id ∈ ftp ss ev m
          · rw [Qdz hidm]
            rcases h1 with h1 | h1
            · rw [H.quiet (by omega) hw h1.2 hidm, ← H.keyA (L := L) (by omega) hw (fun j _ hj => Q4T hC hj hLm) hidm m (Nat.le_refl _), ih]
            · exact (h1 id hid hidm).elim
          · rw [QbB hidm, ih]
            cases hg : get (ev m).st.heap id with
            | none => rfl
            | some b =>
              rcases (H.stays (by omega : m < ops.size) hw).2.2 id b hg with ⟨hm', _⟩ | ⟨g1, g2, _⟩
              · exact absurd hm' hidm
              · omega
    · have : q = m + 1 := by omega
      subst this
      exact H.keyA hq hwq hB hid _ (Nat.le_refl _)
omit H in
theorem Qjv {L : Nat → Bool} {q m : Nat} (h : m ≠ q) : more L q m = L m := by unfold more; rw [if_neg h]
omit H in
theorem QjT {L : Nat → Bool} {q : Nat} : ∀ m, m ≤ q → G ss ev (more L q) m = G ss ev L m
  | 0, _ => rfl
  | m + 1, h => by rw [G, G, QjT m (by omega), Qjv (by omega)]
omit H in
theorem QjU {L : Nat → Bool} {q : Nat} (hw : (ev q).w = false) : ∀ m, G ss ev (more L q) m = G ss ev L m
  | 0 => rfl
  | m + 1 => by
    rw [G, G, QjU hw m]
    by_cases he : m = q
    · subst he; rw [hw]; simp
    · rw [Qjv he]
theorem Hst.keyC {L : Nat → Bool} (hC : Closed ops L) {q : Nat} (hq : q < ops.size) (hwq : (ev q).w = true) (hL : L q = false) (hC' : Closed ops (more L q)) (id : Nat) :
    ∀ m, q < m → m ≤ ops.size → G ss ev (more L q) m id = updG (ftp ss ev q) (ev q).st.heap (G ss ev L m) id := by
  intro m hm
  induction m with
  | zero => omega
  | succ m ih =>
    intro hms
    rcases Nat.lt_or_ge q m with hlt | hge
    · have ih := ih hlt (by omega)
      have e1 : more L q m = L m := by unfold more; rw [if_neg (by omega)]
      have g1 : G ss ev (more L q) (m + 1) = if (L m && (ev m).w) = true then updG (ftp ss ev m) (ev m).st.heap (G ss ev (more L q) m) else G ss ev (more L q) m := by rw [G, e1]
      have g2 : G ss ev L (m + 1) = if (L m && (ev m).w) = true then updG (ftp ss ev m) (ev m).st.heap (G ss ev L m) else G ss ev L m := rfl
      rw [g1, g2]
      cases hw : (ev m).w with
      | false => rw [Bool.and_false, if_neg (by decide), if_neg (by decide)]; exact ih
      | true =>
        cases hLm : L m with
        | false => rw [Bool.and_true, if_neg (by decide), if_neg (by decide)]; exact ih
        | true =>
          rw [Bool.and_true, if_pos rfl, if_pos rfl]
          have hnb : ¬ bit (masks ops.toList 0 []) q m = true := fun hb => by have := Q4T hC hb hLm; rw [hL] at this; cases this
          obtain ⟨h1, h2⟩ := H.pair hlt (by omega) hwq hw hnb
          have hmono := H.nx (show q + 1 ≤ m by omega) (by omega)
          rw [(H.set hq).2.1, if_pos hwq] at hmono
          have hle := (H.stays hq hwq).2.1
          by_cases t1 : id ∈ ftp ss ev q
          · have hlt1 := (H.stays hq hwq).1 id t1
            rw [Qdz t1]
            by_cases t2 : id ∈ ftp ss ev m
            · rw [Qdz t2]
              rcases h1 with h1 | h1
              · rw [H.quiet (by omega) hw h1.2 t2, ← H.keyA (L := more L q) (by omega) hw (fun j _ hj => Q4T hC' hj (by rw [e1]; exact hLm)) t2 m (Nat.le_refl _), ih, Qdz t1]
              · exact (h1 id t1 t2).elim
            · have hn : get (ev m).st.heap id = none := by
                cases hg : get (ev m).st.heap id with
                | none => rfl
                | some b =>
                  rcases (H.stays (by omega : m < ops.size) hw).2.2 id b hg with ⟨hm', _⟩ | ⟨g1, g2, _⟩
                  · exact absurd hm' t2
                  · omega
              rw [QbB t2 hn, ih, Qdz t1]
          · cases hg : get (ev q).st.heap id with
            | none =>
              rw [QbB t1 hg]
              refine Qf2 ?_
              rw [ih, QbB t1 hg]
            | some b =>
              have hnew : (ss q).nx ≤ id ∧ id < (ev q).st.nx := by
                rcases (H.stays hq hwq).2.2 id b hg with ⟨hm', _⟩ | ⟨g1, g2, _⟩
                · exact absurd hm' t1
                · exact ⟨g1, g2⟩
              have t2 : id ∉ ftp ss ev m := fun t2 => h2 id t2 hnew
              have hn : get (ev m).st.heap id = none := by
                cases hg : get (ev m).st.heap id with
                | none => rfl
                | some b =>
                  rcases (H.stays (by omega : m < ops.size) hw).2.2 id b hg with ⟨hm', _⟩ | ⟨g1, g2, _⟩
                  · exact absurd hm' t2
                  · omega
              rw [QbB t2 hn, ih]
              unfold updG
              rw [hg]
    · have : q = m := by omega
      subst this
      have g1 : G ss ev (more L q) (q + 1) = updG (ftp ss ev q) (ev q).st.heap (G ss ev (more L q) q) := by
        rw [G, hwq]
        unfold more
        simp
      have g2 : G ss ev L (q + 1) = G ss ev L q := by rw [G, hL]; simp
      rw [g1, g2, QjT q (Nat.le_refl _)]
omit H in
theorem Qkf {L : Nat → Bool} {q : Nat} : ∀ m, m ≤ q → V ss ev (more L q) m = V ss ev L m
  | 0, _ => rfl
  | m + 1, h => by rw [V, V, Qkf m (by omega), Qjv (by omega)]
theorem Hst.keyV {L : Nat → Bool} (hC : Closed ops L) {q : Nat} (hq : q < ops.size) (hL : L q = false) (t : Nat) : ∀ m, q < m → m ≤ ops.size → V ss ev (more L q) m t = if (ev q).o.dst = some t then some (ev q).v else V ss ev L m t := by
  intro m hm
  induction m with
  | zero => omega
  | succ m ih =>
    intro hms
    rcases Nat.lt_or_ge q m with hlt | hge
    · have ih := ih hlt (by omega)
      have e1 : more L q m = L m := by unfold more; rw [if_neg (by omega)]
      show (if more L q m = true ∧ _ then _ else _) = if _ then _ else (if L m = true ∧ _ then _ else _)
      rw [e1, ih]
      by_cases hc : L m = true ∧ (ev m).o.dst = some t
      · rw [if_pos hc, if_pos hc]
        have hnb : ¬ bit (masks ops.toList 0 []) q m = true := fun hb => by have := Q4T hC hb hc.1; rw [hL] at this; cases this
        rw [if_neg ((H.slots hlt (by omega) hnb).2.1 t hc.2)]
      · rw [if_neg hc, if_neg hc]
    · have : q = m := by omega
      subst this
      show (if more L q q = true ∧ _ then _ else V ss ev (more L q) q t) = if _ then _ else (if L q = true ∧ _ then _ else _)
      rw [Qkf q (Nat.le_refl _), hL]
      simp [more]
theorem Hst.keyW {L : Nat → Bool} (hC : Closed ops L) {q : Nat} (hq : q < ops.size) (hL : L q = false) (hB : ∀ j, j ≠ q → bit (masks ops.toList 0 []) j q = true → L j = true) {t : Nat} (ht : t ∈ (ev q).o.looksAt ops) :
    ∀ m, q ≤ m → m ≤ ops.size → Rfo (V ss ev L m t) (get (ev q).sl t) := by
  have h1 : ∀ m, m ≤ q → Rfo (V ss ev L m t) (get (ss m).slots t) := by
    intro m
    induction m with
    | zero => intro _; exact .inl rfl
    | succ j ih =>
      intro hj
      have ih := ih (by omega)
      rw [(H.set (by omega : j < ops.size)).2.2 t]
      show Rfo (if L j = true ∧ _ then _ else _) _
      by_cases hd : (ev j).o.dst = some t
      · rw [if_pos hd]
        cases hLj : L j with
        | true => rw [if_pos ⟨rfl, hd⟩]; exact .inl rfl
        | false =>
          exact absurd ht ((H.slots (by omega) hq (fun hb => by have := hB j (by omega) hb; rw [hLj] at this; cases this)).2.2 t hd)
      · rw [if_neg hd, if_neg (fun h => hd h.2)]
        refine ih.trans ?_
        rcases (H.did j (by omega)).rf t with h | ⟨b, h, h'⟩
        · exact .inl h
        · exact .inr ⟨b, h, h'⟩
  intro m hm
  induction m with
  | zero =>
    intro _
    have : q = 0 := by omega
    subst this
    refine (h1 0 (Nat.le_refl _)).trans ?_
    rcases (H.did 0 hq).rf t with h | ⟨b, h, h'⟩
    · exact .inl h
    · exact .inr ⟨b, h, h'⟩
  | succ m ih =>
    intro hms
    rcases Nat.lt_or_ge q (m + 1) with hlt | hge
    · have ih := ih (by omega) (by omega)
      show Rfo (if L m = true ∧ _ then _ else _) _
      by_cases hc : L m = true ∧ (ev m).o.dst = some t
      · have hqm : q < m := by
          rcases Nat.lt_or_ge q m with h | h
          · exact h
          · have : q = m := by omega
            subst this; rw [hL] at hc; cases hc.1
        have hnb : ¬ bit (masks ops.toList 0 []) q m = true := fun hb => by have := Q4T hC hb hc.1; rw [hL] at this; cases this
        exact absurd ht ((H.slots hqm (by omega) hnb).1 t hc.2)
      · rw [if_neg hc]; exact ih
    · have : q = m + 1 := by omega
      subst this
      refine (h1 _ (Nat.le_refl _)).trans ?_
      rcases (H.did _ hq).rf t with h | ⟨b, h, h'⟩
      · exact .inl h
      · exact .inr ⟨b, h, h'⟩
theorem Hst.allG {L : Nat → Bool} (hL : ∀ j, j < ops.size → L j = true) (id : Nat) : ∀ m, m ≤ ops.size → G ss ev L m id = get (ss m).heap id := by
  intro m
  induction m with
  | zero => intro _; rfl
  | succ j ih =>
    intro hj
    have ih := ih (by omega)
    rw [(H.set (by omega : j < ops.size)).1 id]
    show (if (L j && (ev j).w) = true then updG _ _ _ else _ : Nat → Option (Blk E.S.K)) id = _
    rw [hL j (by omega), Bool.true_and]
    split
    · next hw => exact Qf2 ih
    · next hw => exact ih
theorem Hst.allV {L : Nat → Bool} (hL : ∀ j, j < ops.size → L j = true) (t : Nat) : ∀ m, m ≤ ops.size → Rfo (V ss ev L m t) (get (ss m).slots t) := by
  intro m
  induction m with
  | zero => intro _; exact .inl rfl
  | succ j ih =>
    intro hj
    have ih := ih (by omega)
    rw [(H.set (by omega : j < ops.size)).2.2 t]
    show Rfo (if L j = true ∧ _ then _ else _) _
    by_cases hd : (ev j).o.dst = some t
    · rw [if_pos hd, if_pos ⟨hL j (by omega), hd⟩]; exact .inl rfl
    · rw [if_neg hd, if_neg (fun h => hd h.2)]
      refine ih.trans ?_
      rcases (H.did j (by omega)).rf t with h | ⟨b, h, h'⟩
      · exact .inl h
      · exact .inr ⟨b, h, h'⟩
end
end Go.Ve
