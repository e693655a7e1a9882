/- A verified evaluator for translated Go functions, part 2: what one function answers, over abstract values, and the proof that the call answers so. No condition: every law is proved here. -/
import Derived.Lib.ConvBytes
import Derived.Laws.BytesString
import Derived.Test.YtaijkhkgjedkaaaGreatDoorVdA
namespace Go.Ve
open Go.RowKit
set_option linter.unusedVariables false
set_option linter.unusedSimpArgs false

section
variable {P : Program} {E : Env} {R : Type} {φ : Nat → Loc} {Fz : Nat → Prop} {st : St E.S.K} {w : World}

theorem newVar_ok (hR : Rel E.S (fun i => i < st.nx) φ Fz st.heap w) {cs : List (Cell E.S.K)} {vs : List Value} (hcs : All2 (CRep E.S (fun i => i < st.nx) φ Fz w) cs vs) {k : Kn E R} {r : R} (h : newVar E st cs k = some r) (t : TypeId)
    {next : Value → World → Prop} (hG : Goal E.S φ Fz st w k r next) : next (.pointer (some ⟨w.heap.size, 0, none⟩)) (w.alloc (.cells vs.toArray t)) := by
  refine hG _ _ _ _ _ _ h (After.new hR (Chg.alloc _ w _) ⟨some ⟨w.heap.size, 0, none⟩, 0, 0, 0⟩ (.var true cs) ⟨rfl, fun j c hj => ?_⟩ (fun k o hc => ?_) rfl) ⟨Nat.lt_succ_self _, ?_⟩
  · obtain ⟨u, hu, hr⟩ := hcs.get hj
    refine ⟨u, ?_, hr.keep (Chg.alloc (fun _ _ => False) w _) (fun _ _ h => h.elim) (fun _ h => h) (fun _ h => h) (fun _ _ => rfl), fun _ => ?_⟩
    · simp only [Loc.b, Loc.o, Option.getD_some, Nat.zero_add]
      rw [World.cell?_alloc_new]
      simpa using hu
    · simp only [Loc.b, Loc.o, Option.getD_some, Nat.zero_add]
      rw [World.frozen?_alloc_new]
  · exact Nat.le_of_eq hc.1.symm
  · rw [upd_same]; rfl

/-- a new builder of texts -/
theorem newBt_ok (hR : Rel E.S (fun i => i < st.nx) φ Fz st.heap w) {b : Cell E.S.K} {v : Value} (hb : CRep E.S (fun i => i < st.nx) φ Fz w b v) {T : Nat} (hT : E.S.bt = some T) {k : Kn E R} {r : R} (h : newVar E st [.self st.nx, b] k = some r)
    {next : Value → World → Prop} (hG : Goal E.S φ Fz st w k r next) : next (.pointer (some ⟨w.heap.size, 0, none⟩)) (w.alloc (.cells #[.pointer none, v] T)) := by
  have hcs : All2 (CRep E.S (fun i => i < st.nx) φ Fz w) [.nilp, b] [.pointer none, v] := .cons rfl (.cons hb .nil)
  have hA := After.new hR (Chg.alloc (fun _ _ => False) w (.cells #[.pointer none, v] T)) ⟨some ⟨w.heap.size, 0, none⟩, 0, 0, 0⟩ (.var true [.nilp, b]) ⟨rfl, fun j c hj => by
      obtain ⟨u, hu, hr⟩ := hcs.get hj
      refine ⟨u, ?_, hr.keep (Chg.alloc (fun _ _ => False) w _) (fun _ _ h => h.elim) (fun _ h => h) (fun _ h => h) (fun _ _ => rfl), fun _ => ?_⟩
      · simp only [Loc.b, Loc.o, Option.getD_some, Nat.zero_add]
        rw [World.cell?_alloc_new]
        simpa using hu
      · simp only [Loc.b, Loc.o, Option.getD_some, Nat.zero_add]
        rw [World.frozen?_alloc_new]⟩ (fun k o hc => Nat.le_of_eq hc.1.symm) rfl
  have hg : get ((st.nx, Blk.var true [.nilp, b]) :: st.heap) st.nx = some (.var true [.nilp, b]) := by rw [get_cons, if_pos rfl]
  have hB0 := hA.rel.rep st.nx _ hg
  have hsh : (w.alloc (.cells #[.pointer none, v] T)).shape? w.heap.size = some (T, 2) := by
    unfold World.shape?
    rw [heap_alloc_new]
    rfl
  have hA2 := After.put (blk := .var true [.self st.nx, b]) hA.rel hg rfl rfl (Chg.refl _ _) (fun k o => Iff.rfl) ⟨hB0.1, fun j c hj => by
    cases j with
    | zero =>
      simp only [List.getElem?_cons_zero, Option.some.injEq] at hj
      subst hj
      obtain ⟨u, h1, h2, h3⟩ := hB0.2 0 .nilp rfl
      refine ⟨u, h1, ⟨Nat.lt_succ_self _, ⟨?_, T, hT, ?_⟩, .inl h2⟩, h3⟩
      · rw [upd_same]; rfl
      · rw [upd_same]; exact hsh
    | succ j => exact hB0.2 (j + 1) c hj⟩
  have hA3 := After.trans hA hA2
  have hput : Ve.put ((st.nx, Blk.var true [.nilp, b]) :: st.heap) st.nx (Blk.var true [.self st.nx, b]) = (st.nx, Blk.var true [.self st.nx, b]) :: st.heap := by rw [Ve.put, Nat.beq_refl]; rfl
  dsimp only at hA3
  rw [hput] at hA3
  refine hG _ _ _ _ _ _ h hA3 ⟨Nat.lt_succ_self _, ?_⟩
  rw [upd_same]; rfl

theorem brep_vec {D : Nat → Prop} {L : Loc} {b o : Nat} (hL : L.addr = some ⟨b, o, none⟩) {e : Nat} {l : List (E.S.K e)} (hlen : L.len = l.length) (hsz : L.sz = E.S.sz e) (hcap : l.length ≤ L.cap) {w' : World} {cur : Array Value} {fz : Nat × Nat}
    (hh : w'.heap[b]? = some (.cells cur e fz)) (hs : o + L.cap * E.S.sz e ≤ cur.size) (hfz : ∀ k, o ≤ k → k < o + L.cap * E.S.sz e → ¬ (fz.1 ≤ k ∧ k < fz.2)) {vs : List Value} (hv : Vals E.S Fz w' e l vs) (hcur : ∀ (m : Nat) (v : Value), vs[m]? = some v → cur[o + m]? = some v) :
    BRep E.S D φ Fz w' L (.vec true e l) := by
  obtain ⟨eb, eo⟩ := addr_b hL
  refine ⟨hlen, hsz, hcap, fun ad had => (by rw [hL] at had; cases had; unfold World.shape?; rw [hh]; rfl), fun h0 => ⟨by rw [eb, eo]; exact hL, (fun h => by cases h), cur, e, fz, by rw [eb]; exact hh, rfl, by rw [eo]; exact hs, fun _ k h1 h2 => hfz k (by rw [eo] at h1; exact h1) (by rw [eo] at h2; exact h2), fun i x j c hx hc => ?_⟩⟩
  obtain ⟨u, hu, ht⟩ := hv.get hx hc
  exact ⟨u, by rw [eo]; exact hcur _ u hu, ht⟩

/-- a new slice in a new block -/
theorem newVec_ok (hR : Rel E.S (fun i => i < st.nx) φ Fz st.heap w) {H : List (Nat × Blk E.S.K)} (hH : ∀ id b, get H id = some b → get st.heap id = some b) {e : Nat} {l : List (E.S.K e)} {k : Kn E R} {r : R} (h : newVec E { st with heap := H } e l k = some r)
    {next : Value → World → Prop} (hG : Goal E.S φ Fz st w k r next) {w1 w' : World} (hC : Chg (fun _ _ => False) w w') {b : Nat} (hb : w.heap.size ≤ b) {cap : Nat} {cur : Array Value} {fz : Nat × Nat} (hh : w'.heap[b]? = some (.cells cur e fz))
    (hcap : l.length ≤ cap) (hs : cap * E.S.sz e ≤ cur.size) (hfz : ∀ k, k < cap * E.S.sz e → ¬ (fz.1 ≤ k ∧ k < fz.2)) {vs : List Value} (hv : Vals E.S Fz w e l vs) (hcur : ∀ (m : Nat) (v : Value), vs[m]? = some v → cur[m]? = some v) :
    next (.slice (some ⟨b, 0, none⟩) l.length cap) w' := by
  have hv' : Vals E.S Fz w' e l vs := hv.keep hC (fun _ _ h => h.elim) (fun _ h => h)
  refine hG _ _ _ _ _ _ h (After.repl hR hH (O := fun _ _ => False) (fun _ _ h => h.elim) hC ⟨some ⟨b, 0, none⟩, l.length, cap, E.S.sz e⟩ (.vec true e l)
    (brep_vec rfl rfl rfl hcap hh (by simpa using hs) (fun k _ h2 => hfz k (by simpa using h2)) hv' (fun m v hm => by rw [Nat.zero_add]; exact hcur m v hm)) (fun k o hc => .inl ?_) rfl) ⟨Nat.lt_succ_self _, ?_⟩
  · rw [hc.2]; exact hb
  · rw [upd_same]

/-- a tree in a new place: what it takes over, and where its own row lies -/
theorem newDeep_ok (hR : Rel E.S (fun i => i < st.nx) φ Fz st.heap w) {H : List (Nat × Blk E.S.K)} (hH : ∀ id b, get H id = some b → get st.heap id = some b) {e : Nat} {l : List (E.S.K e)} {k : Kn E R} {r : R} (h : newDeep E { st with heap := H } e l k = some r)
    {next : Value → World → Prop} (hG : Goal E.S φ Fz st w k r next) {w' : World} {O : Nat → Nat → Prop} (hO : ∀ k o, O k o → ∃ id b, get st.heap id = some b ∧ b.own = true ∧ get H id = none ∧ cellsOf w (φ id) b k o) (hC : Chg O w w')
    {L : Loc} (hlen : L.len = l.length) (hsz : L.sz = E.S.sz e) (hcap : l.length ≤ L.cap) (hsh : ∀ ad, L.addr = some ad → (w'.shape? ad.block).isSome = true) (hm : L.cap ≠ 0 → L.addr = some ⟨L.b, L.o, none⟩ ∧ Mine w' L.b L.o (L.cap * E.S.sz e) e)
    (hLb : L.cap ≠ 0 → w.heap.size ≤ L.b ∨ ∀ o, O L.b o) (P : Nat → Nat → Nat → Prop)
    (hP : ∀ i j k, P i j k → ∃ id b o, get st.heap id = some b ∧ b.own = true ∧ get H id = none ∧ canFz b = true ∧ cellsOf w (φ id) b k o) (hPO : ∀ i j k, P i j k → ∀ o, ¬ O k o) (hPL : ∀ i j k, P i j k → k ≠ L.b)
    (hsep : ∀ i j i' j' k, P i j k → P i' j' k → i = i' ∧ j = j')
    (hp : ∀ (i : Nat) (x : E.S.K e) (j : Nat) (c : Cell E.S.K), l[i]? = some x → (E.S.enc e x)[j]? = some c → ∃ u, w'.cell? ⟨L.b, L.o + (i * E.S.sz e + j), none⟩ = some u ∧ DRep E.S w c u ∧ ∀ k, Reach E.S w c u k → P i j k) :
    next (.slice L.addr L.len L.cap) w' := by
  obtain ⟨g1, g2⟩ := Deep.build (D := fun i => i < st.nx) (φ := φ) (w := w') hlen hsz hcap hsh hm P (fun i x j c hx hc => by
    obtain ⟨u, hu, hd, hr⟩ := hp i x j c hx hc
    obtain ⟨d1, d2⟩ := hd.keep hC (fun k o hk hr' => hPO i j k (hr k hr') o hk)
    exact ⟨u, hu, d1, fun k hk => hr k ((d2 k).1 hk)⟩) hPL hsep
  refine hG _ _ _ _ _ _ h (After.repl hR hH hO hC L (.deep e l none) g1 (fun k o hc => ?_) rfl) ⟨Nat.lt_succ_self _, ?_⟩
  · rcases g2 k o hc with ⟨h0, rfl⟩ | ⟨i, j, hij⟩
    · exact (hLb h0).imp id (fun h => .inl (h o))
    · obtain ⟨id, b, o', h1, h2, h3, h4, h5⟩ := hP i j k hij
      exact .inr (.inr ⟨id, b, h1, h2, h3, h5.any h4 o⟩)
  · rw [upd_same]

/-! ### append -/
set_option maxHeartbeats 1000000 in
theorem run_append_fit {t u ty e : TypeId} {i : TypeInfo} {d : TypeDesc} (ht : P.underlying t = some (.slice e)) (hi : P.info? e = some i) (hu : P.underlying u = some d) (hd : (∃ e', d = .slice e') ∨ d = .string)
    {ba : Option Addr} {sLen sCap n : Nat} {x : Value} {news : List Value} (hlen : ∀ w2, (Builtin.lenOf x).run P w2 = .ok n w2) (hf : ∀ w2 : World, w2.heap = w.heap → (Builtin.firstCells i.size n x).run P w2 = .ok news.toArray w2)
    (hfit : sLen + n ≤ sCap) {w' : World} (hst : (match ba with | some a => (storeCells (a.add (sLen * i.size)) news).run P w | none => .ok () w) = .ok () w') :
    (Builtin.append_ #[t, u] ty #[.slice ba sLen sCap, x]).run P w = .ok (.slice ba (sLen + n) sCap) w' := by
  cases ba with
  | none =>
    simp only [Result.ok.injEq, true_and] at hst
    subst hst
    rcases hd with ⟨e', rfl⟩ | rfl <;> simp [Builtin.append_, run_underlying ht, run_underlying hu, sizeOf, typeInfo, hi, hlen, hfit, hf w rfl]
  | some a =>
    rcases hd with ⟨e', rfl⟩ | rfl <;> simp [Builtin.append_, run_underlying ht, run_underlying hu, sizeOf, typeInfo, hi, hlen, hfit, hf w rfl, hst]
set_option maxHeartbeats 1000000 in
theorem run_append_more {t u ty e : TypeId} {i : TypeInfo} {d : TypeDesc} {z : Value} (ht : P.underlying t = some (.slice e)) (hi : P.info? e = some i) (hz : i.zero = some z) (hu : P.underlying u = some d) (hd : (∃ e', d = .slice e') ∨ d = .string)
    {ba : Option Addr} {sLen sCap n : Nat} {x : Value} {olds news : List Value} (hlen : ∀ w2, (Builtin.lenOf x).run P w2 = .ok n w2) (hf : ∀ w2 : World, w2.heap = w.heap → (Builtin.firstCells i.size n x).run P w2 = .ok news.toArray w2)
    (hfo : ∀ w2 : World, w2.heap = w.heap → (Builtin.firstCells i.size sLen (.slice ba sLen sCap)).run P w2 = .ok olds.toArray w2)
    (hg : sCap < sLen + n) (hb0 : 0 < i.bytes) (hb : (sLen + n) * i.bytes ≤ 140737488355328) :
    (Builtin.append_ #[t, u] ty #[.slice ba sLen sCap, x]).run P w =
      .ok (.slice (some ⟨w.heap.size, 0, none⟩) (sLen + n) (grownCap w (sLen + n) sCap e))
        (w.drew.alloc (.cells (olds.toArray ++ news.toArray ++ Builtin.zeroCells z.cells (grownCap w (sLen + n) sCap e - (sLen + n))) e)) := by
  have hn : ¬ (sLen + n ≤ sCap) := by omega
  have hle : sLen + n ≤ (sLen + n) * i.bytes := Nat.le_mul_of_pos_right _ hb0
  have h63' : ¬ (9223372036854775807 < ((sLen : Int) + (n : Int))) := by omega
  have h48 := growslice_fits (old := sCap) hg hb
  have h48' : ¬ (281474976710656 < Builtin.nextslicecap (sLen + n) sCap * i.bytes) := by omega
  have hf1 := hf w.drew rfl
  have hf2 := hfo w.drew rfl
  rcases hd with ⟨e', rfl⟩ | rfl <;> simp [Builtin.append_, run_underlying ht, run_underlying hu, sizeOf, typeInfo, zeroValue, hi, hz, hlen, hn, h63', h48', Question.forced, hf1, hf2, newRow, grownCap] <;> (congr 2; apply Array.ext'; simp)

theorem grownCap_bound (w : World) (need old : Nat) (e : TypeId) : need ≤ grownCap w need old e := grownCap_ge w need old e

/-- what an append goes on from -/
theorem base_ok (hE : EnvOk P E) (hR : Rel E.S (fun i => i < st.nx) φ Fz st.heap w) {e : Nat} {s : Cell E.S.K} {l0 : List (E.S.K e)} {H : List (Nat × Blk E.S.K)} (h : base E st e s = some (l0, H)) {v : Value} (hv : CRep E.S (fun i => i < st.nx) φ Fz w s v) :
    ∃ L : Loc, v = .slice L.addr L.len L.cap ∧ BRep E.S (fun i => i < st.nx) φ Fz w L (.vec true e l0) ∧ (∀ id b, get H id = some b → get st.heap id = some b) ∧
      (L.cap ≠ 0 → ∃ id b, get st.heap id = some b ∧ b.own = true ∧ get H id = none ∧ ∀ o, cellsOf w (φ id) b L.b o) := by
  have hdel : ∀ id j b, get (del st.heap id) j = some b → get st.heap j = some b := fun id j b hj => by
    rw [get_del] at hj
    split at hj
    · cases hj
    · exact hj
  unfold base at h
  split at h
  · cases h
    refine ⟨⟨none, 0, 0, E.S.sz e⟩, hv, ⟨rfl, rfl, Nat.le_refl _, (fun ad h => by cases h), fun h => absurd rfl h⟩, fun _ _ h => h, fun h => absurd rfl h⟩
  · split at h
    · next id e' l hg =>
      split at h
      · next heq _ =>
        subst heq; cases h
        refine ⟨φ _, hv.2, hR.rep _ _ hg, hdel _, fun h0 => ⟨_, _, hg, rfl, by rw [get_del, if_pos rfl], fun o => ⟨h0, rfl⟩⟩⟩
      · cases h
    · cases h
  · split at h
    · next hg =>
      split at h
      · next heq _ =>
        subst heq; cases h
        obtain ⟨L, hvL, hB, hL⟩ := vec_sub hR hg hv
        refine ⟨L, hvL, hB, hdel _, fun h0 => ⟨_, _, hg, rfl, by rw [get_del, if_pos rfl], fun o => ⟨(hL h0).2, (hL h0).1⟩⟩⟩
      · cases h
    · cases h
  · cases h

/-- a tree that is read as a row of cells -/
theorem src_of_deep {D : Nat → Prop} {L : Loc} {e : Nat} {l : List (E.S.K e)} (hsz : 0 < E.S.sz e) (hD : Deep E.S D φ w L e l none) : ∃ vs : List Value, vs.length = l.length * E.S.sz e ∧ (∀ m v, vs[m]? = some v → w.cell? ⟨L.b, L.o + m, none⟩ = some v) ∧ (∀ v ∈ vs, v.oneCell' = true) ∧
    (∀ w2, (Builtin.lenOf (.slice L.addr L.len L.cap)).run P w2 = .ok l.length w2) ∧ ∀ w2 : World, w2.heap = w.heap → (Builtin.firstCells (E.S.sz e) l.length (.slice L.addr L.len L.cap)).run P w2 = .ok vs.toArray w2 := by
  by_cases h0 : L.cap = 0
  · have hl : l = [] := List.eq_nil_of_length_eq_zero (by have := hD.cap; omega)
    subst hl
    refine ⟨[], by simp, (fun m v h => by simp at h), (fun v h => by cases h), fun w2 => by simp [Builtin.lenOf, hD.len], fun w2 hw => ?_⟩
    cases hA : L.addr <;> simp [Builtin.firstCells, loadCells, loadCellsFrom]
  · obtain ⟨ha, hm⟩ := hD.mine h0
    obtain ⟨vs, h1, h2⟩ := vals_of (Fz := fun _ => True) (w := w) hsz l (fun m u => w.cell? ⟨L.b, L.o + m, none⟩ = some u) (fun i x j c hx hc => by
      obtain ⟨u, hu, hd⟩ := hD.part i x j c hx hc noHole
      exact ⟨u, hu, hd.trep (fun _ _ => trivial)⟩)
    refine ⟨vs, h1.len, h2, h1.one, fun w2 => by simp [Builtin.lenOf, hD.len], fun w2 hw => ?_⟩
    rw [ha]
    have := firstCells_some (P := P) (size := E.S.sz e) (n := l.length) (len := L.len) (cap := L.cap) (by rw [h1.len]; exact Nat.le_refl _) h2 hw
    rwa [List.take_of_length_le (by rw [h1.len]; exact Nat.le_refl _)] at this
theorem deepOf_ok (hR : Rel E.S (fun i => i < st.nx) φ Fz st.heap w) {e : Nat} {c : Cell E.S.K} {l : List (E.S.K e)} {ids : List Nat} (h : deepOf E st e c = some (l, ids)) {v : Value} (hv : CRep E.S (fun i => i < st.nx) φ Fz w c v) :
    ∃ L : Loc, v = .slice L.addr L.len L.cap ∧ Deep E.S (fun i => i < st.nx) φ w L e l none ∧ ((ids = [] ∧ L.cap = 0 ∧ l = []) ∨ ∃ id, ids = [id] ∧ get st.heap id = some (.deep e l none) ∧ L = φ id) := by
  unfold deepOf at h
  split at h
  · cases h
    exact ⟨⟨none, 0, 0, E.S.sz e⟩, hv, Deep.nil e _ rfl, .inl ⟨rfl, rfl, rfl⟩⟩
  · next id =>
    split at h
    · next e' l' hg =>
      split at h
      · next heq _ =>
        subst heq; cases h
        exact ⟨φ id, hv.2, hR.rep id _ hg, .inr ⟨id, rfl, hg, rfl⟩⟩
      · cases h
    · cases h
  · cases h
theorem dAppendD_ok (hE : EnvOk P E) (hR : Rel E.S (fun i => i < st.nx) φ Fz st.heap w) {t u ty : TypeId} {e : Nat} (ht : sliceOf E t = some e) (hu : (isSlice (kindOf E u) || isStr (kindOf E u)) = true) {s x : Cell E.S.K} {sv xv : Value}
    (hs : CRep E.S (fun i => i < st.nx) φ Fz w s sv) (hx : CRep E.S (fun i => i < st.nx) φ Fz w x xv) {k : Kn E R} {r : R} (h : dAppendD E st e (bytesOf E e) s x k = some r) {next : Value → World → Prop} (hG : Goal E.S φ Fz st w k r next) :
    ∃ v w', (Builtin.append_ #[t, u] ty #[sv, xv]).run P w = .ok v w' ∧ next v w' := by
  obtain ⟨hund, i, z, ed, _, hi, hsize, hbytes, _, hb0, hz, hzc, hzl, hsz⟩ := hE.sliceOf ht
  obtain ⟨d, hud, hdk⟩ : ∃ d, P.underlying u = some d ∧ ((∃ e', d = .slice e') ∨ d = .string) := by
    cases hk : kindOf E u <;> rw [hk] at hu <;> simp [isSlice, isStr] at hu
    · obtain ⟨d, h1, h2⟩ := hE.kind hk (by simp); exact ⟨d, h1, .inr h2⟩
    · obtain ⟨d, h1, h2⟩ := hE.kind hk (by simp); exact ⟨d, h1, .inl ⟨_, h2⟩⟩
  unfold dAppendD at h
  split at h
  case h_2 => cases h
  next l0 i0 l i1 h0 h1 =>
  cases hck : !mem i1 i0 with
  | false => rw [hck] at h; cases h
  | true =>
  rw [hck] at h
  dsimp only [chk] at h
  unfold sif at h
  split at h
  case h_2 => cases h
  next hroom =>
  obtain ⟨L, rfl, hD, hLk⟩ := deepOf_ok hR h0 hs
  obtain ⟨L1, rfl, hD1, hLk1⟩ := deepOf_ok hR h1 hx
  obtain ⟨id1, e1, hg1, rfl⟩ : ∃ id, [i1] = [id] ∧ get st.heap id = some (.deep e l none) ∧ L1 = φ id := hLk1.resolve_left (fun h => by cases h.1)
  obtain rfl : i1 = id1 := by simpa using e1
  have hni : i1 ∉ i0 := fun hm => by rw [(mem_iff i1 i0).2 hm] at hck; cases hck
  obtain ⟨olds, hol, hoc, _, _, hof⟩ := src_of_deep (P := P) hsz hD
  obtain ⟨news, hnl, hnc, hn1, hnlen, hnf⟩ := src_of_deep (P := P) hsz hD1
  have hroom' : (l0.length + l.length) * i.bytes ≤ 140737488355328 := by rw [hbytes]; exact Nat.le_of_ble_eq_true hroom
  have hf : ∀ w2 : World, w2.heap = w.heap → (Builtin.firstCells i.size l.length (.slice (φ i1).addr (φ i1).len (φ i1).cap)).run P w2 = .ok news.toArray w2 := fun w2 hw => by rw [hsize]; exact hnf w2 hw
  have hH : ∀ id b, get (dels (i0 ++ [i1]) st.heap) id = some b → get st.heap id = some b := fun id b hb => by
    rw [get_dels] at hb
    split at hb
    · cases hb
    · exact hb
  have hg0 : ∀ j k, (∃ i, RA E.S w L e l0 i j k) → ∃ id, i0 = [id] ∧ get st.heap id = some (.deep e l0 none) ∧ L = φ id := fun j k ⟨i, c, u, ⟨x, hx, _⟩, _⟩ => hLk.resolve_left (fun h => by rw [h.2.2] at hx; simp at hx)
  have hgone : ∀ id, id ∈ i0 ∨ id = i1 → get (dels (i0 ++ [i1]) st.heap) id = none := fun id hid => by rw [get_dels, if_pos (by simpa using hid)]
  -- what belongs to the places of the whole
  let PP : Nat → Nat → Nat → Prop := fun i j k => (i < l0.length ∧ RA E.S w L e l0 i j k) ∨ (l0.length ≤ i ∧ RA E.S w (φ i1) e l (i - l0.length) j k)
  have hPP : ∀ i j k, PP i j k → ∃ id b o, get st.heap id = some b ∧ b.own = true ∧ get (dels (i0 ++ [i1]) st.heap) id = none ∧ canFz b = true ∧ cellsOf w (φ id) b k o := fun i j k hp => by
    rcases hp with ⟨_, hp⟩ | ⟨_, hp⟩
    · obtain ⟨id, hid, hg, hL⟩ := hg0 j k ⟨i, hp⟩
      exact ⟨id, _, 0, hg, rfl, hgone id (.inl (by rw [hid]; simp)), rfl, by rw [← hL]; exact hp.cells⟩
    · exact ⟨i1, _, 0, hg1, rfl, hgone i1 (.inr rfl), rfl, hp.cells⟩
  have hcross : ∀ i j i' j' k, RA E.S w L e l0 i j k → RA E.S w (φ i1) e l i' j' k → False := fun i j i' j' k ha hb => by
    obtain ⟨id, hid, hg, hL⟩ := hg0 j k ⟨i, ha⟩
    rw [hL] at ha
    exact hR.dis id i1 _ _ hg hg1 (fun h => hni (by rw [hid, ← h]; simp)) rfl k 0 ha.cells hb.cells
  have hsep : ∀ i j i' j' k, PP i j k → PP i' j' k → i = i' ∧ j = j' := fun i j i' j' k ha hb => by
    rcases ha with ⟨a1, ha⟩ | ⟨a1, ha⟩ <;> rcases hb with ⟨b1, hb⟩ | ⟨b1, hb⟩
    · exact RA.sep hD ha hb
    · exact (hcross _ _ _ _ k ha hb).elim
    · exact (hcross _ _ _ _ k hb ha).elim
    · obtain ⟨q1, q2⟩ := RA.sep hD1 ha hb
      exact ⟨by omega, q2⟩
  have hparts : ∀ (i : Nat) (x : E.S.K e) (j : Nat) (c : Cell E.S.K), (l0 ++ l)[i]? = some x → (E.S.enc e x)[j]? = some c → j < E.S.sz e ∧ ((i < l0.length ∧ ∃ u, olds[i * E.S.sz e + j]? = some u ∧ w.cell? ⟨L.b, L.o + (i * E.S.sz e + j), none⟩ = some u ∧ DRep E.S w c u ∧ ∀ k, Reach E.S w c u k → PP i j k) ∨
      (l0.length ≤ i ∧ i - l0.length < l.length ∧ ∃ u, news[(i - l0.length) * E.S.sz e + j]? = some u ∧ DRep E.S w c u ∧ ∀ k, Reach E.S w c u k → PP i j k)) := fun i x j c hx hc => by
    have hj : j < E.S.sz e := by have := (List.getElem?_eq_some_iff.1 hc).1; rw [E.S.enc_length] at this; exact this
    have pos : ∀ (n m : Nat), n < m → n * E.S.sz e + j < m * E.S.sz e := fun n m hnm => by
      have : (n + 1) * E.S.sz e ≤ m * E.S.sz e := Nat.mul_le_mul_right _ hnm
      rw [Nat.add_mul, Nat.one_mul] at this; omega
    refine ⟨hj, ?_⟩
    rw [List.getElem?_append] at hx
    by_cases hil : i < l0.length
    · rw [if_pos hil] at hx
      obtain ⟨u, hu, hd⟩ := hD.part i x j c hx hc noHole
      have hlt : i * E.S.sz e + j < olds.length := by rw [hol]; exact pos _ _ hil
      have h2 := hoc _ _ (List.getElem?_eq_getElem hlt)
      rw [hu] at h2
      refine .inl ⟨hil, u, ?_, hu, hd, fun k hk => .inl ⟨hil, c, u, ⟨x, hx, hc, hu⟩, hk⟩⟩
      rw [List.getElem?_eq_getElem hlt]; exact h2.symm
    · rw [if_neg hil] at hx
      have hil2 := (List.getElem?_eq_some_iff.1 hx).1
      obtain ⟨u, hu, hd⟩ := hD1.part _ x j c hx hc noHole
      have hlt : (i - l0.length) * E.S.sz e + j < news.length := by rw [hnl]; exact pos _ _ hil2
      have h2 := hnc _ _ (List.getElem?_eq_getElem hlt)
      rw [hu] at h2
      refine .inr ⟨by omega, hil2, u, ?_, hd, fun k hk => .inr ⟨by omega, c, u, ⟨x, hx, hc, hu⟩, hk⟩⟩
      rw [List.getElem?_eq_getElem hlt]; exact h2.symm
  by_cases hfit : L.len + l.length ≤ L.cap
  · by_cases h00 : L.cap = 0
    · have q1 : l0 = [] := List.eq_nil_of_length_eq_zero (by have := hD.cap; omega)
      have q2 : l = [] := List.eq_nil_of_length_eq_zero (by omega)
      have hn0 : news = [] := List.eq_nil_of_length_eq_zero (by rw [hnl, q2]; simp)
      have hst : (match L.addr with | some a => (storeCells (a.add (L.len * i.size)) news).run P w | none => .ok () w) = .ok () w := by
        rw [hn0]; cases L.addr <;> simp [storeCells]
      refine ⟨_, _, run_append_fit hund hi hud hdk hnlen hf hfit hst, ?_⟩
      have := newDeep_ok (L := ⟨L.addr, 0, 0, E.S.sz e⟩) hR hH h hG (O := fun _ _ => False) (fun _ _ h => h.elim) (Chg.refl _ w) (by simp [q1, q2]) rfl (by simp [q1, q2]) hD.shape (fun h => absurd rfl h) (fun h => absurd rfl h) (fun _ _ _ => False) (fun _ _ _ h => h.elim) (fun _ _ _ h => h.elim) (fun _ _ _ h => h.elim) (fun _ _ _ _ _ h => h.elim) (fun i x j c hx => by simp [q1, q2] at hx)
      have e2 : L.len + l.length = 0 := by have := hD.len; rw [q1] at this; rw [this, q2]; rfl
      rw [e2, h00]; exact this
    · obtain ⟨ha, cur, fz, hh, hs', hun⟩ := hD.mine h00
      obtain ⟨id0, hid0, hgid0, hLid0⟩ : ∃ id, i0 = [id] ∧ get st.heap id = some (.deep e l0 none) ∧ L = φ id := hLk.resolve_left (fun h => h00 h.2.1)
      have hle : (L.len + l.length) * E.S.sz e ≤ L.cap * E.S.sz e := Nat.mul_le_mul_right _ hfit
      rw [Nat.add_mul] at hle
      have hLlen := hD.len
      have hst := storeCells_run P L.b (L.o + L.len * E.S.sz e) e fz news 0 cur w hh (by rw [hnl]; omega) hn1 (fun k h1 h2 => hun k (by omega) (by rw [hnl] at h2; omega))
      have hst' : (match L.addr with | some a => (storeCells (a.add (L.len * i.size)) news).run P w | none => .ok () w) = .ok () (w.setRow L.b (cur.toList.take (L.o + L.len * E.S.sz e) ++ news ++ cur.toList.drop (L.o + L.len * E.S.sz e + news.length)).toArray) := by
        rw [ha]
        simp only [add_lit, hsize]
        simpa using hst
      refine ⟨_, _, run_append_fit hund hi hud hdk hnlen hf hfit hst', ?_⟩
      have hspl : ∀ j, (cur.toList.take (L.o + L.len * E.S.sz e) ++ news ++ cur.toList.drop (L.o + L.len * E.S.sz e + news.length)).toArray[j]? = if L.o + L.len * E.S.sz e ≤ j ∧ j < L.o + L.len * E.S.sz e + news.length then news[j - (L.o + L.len * E.S.sz e)]? else cur[j]? := fun j => by
        have hls : L.o + L.len * E.S.sz e + news.length ≤ cur.toList.length := by have h1 : cur.toList.length = cur.size := Array.length_toList; omega
        rw [List.getElem?_toArray, splice_get _ _ _ _ hls]
        simp
      have hsize' : (cur.toList.take (L.o + L.len * E.S.sz e) ++ news ++ cur.toList.drop (L.o + L.len * E.S.sz e + news.length)).toArray.size = cur.size := by
        have h2 : cur.toList.length = cur.size := Array.length_toList; simp only [List.size_toArray, List.length_append, List.length_take, List.length_drop, h2]; omega
      have hC : Chg (fun (k o : Nat) => k = L.b) w (w.setRow L.b (cur.toList.take (L.o + L.len * E.S.sz e) ++ news ++ cur.toList.drop (L.o + L.len * E.S.sz e + news.length)).toArray) :=
        setRow_chg hh (fun x hx => absurd rfl hx) ⟨0, rfl⟩ hsize'
      have hh' := setRow_heap w L.b cur (cur.toList.take (L.o + L.len * E.S.sz e) ++ news ++ cur.toList.drop (L.o + L.len * E.S.sz e + news.length)).toArray e fz hh
      have hown : ∀ o, cellsOf w (φ id0) (.deep e l0 none) L.b o := fun o => .inl (by rw [← hLid0]; exact ⟨h00, rfl⟩)
      have hPO : ∀ i j k, PP i j k → k ≠ L.b := fun i j k hp => by
        rcases hp with ⟨_, c, u, ha, hr⟩ | ⟨_, hp⟩
        · exact hD.out i j c u k ha noHole hr
        · rintro rfl
          exact hR.dis id0 i1 _ _ hgid0 hg1 (fun h => hni (by rw [hid0, ← h]; simp)) rfl L.b 0 (hown 0) hp.cells
      have hL2 : (⟨L.addr, L.len + l.length, L.cap, E.S.sz e⟩ : Loc).b = L.b ∧ (⟨L.addr, L.len + l.length, L.cap, E.S.sz e⟩ : Loc).o = L.o := addr_b ha
      have := newDeep_ok (L := ⟨L.addr, L.len + l.length, L.cap, E.S.sz e⟩) hR hH h hG (O := fun (k o : Nat) => k = L.b)
        (fun k o hk => ⟨id0, _, hgid0, rfl, hgone id0 (.inl (by rw [hid0]; simp)), by rw [hk]; exact hown o⟩) hC (by simp [hLlen]) rfl (by rw [List.length_append, ← hLlen]; exact hfit)
        (fun ad had => (by have had : L.addr = some ad := had; rw [ha] at had; cases had; unfold World.shape?; rw [hh']; rfl)) (fun _ => by rw [hL2.1, hL2.2]; exact ⟨ha, _, fz, hh', by rw [hsize']; exact hs', hun⟩) (fun _ => .inr (fun o => hL2.1)) PP hPP (fun i j k hp o hk => hPO i j k hp hk) (fun i j k hp => by rw [hL2.1]; exact hPO i j k hp) hsep
        (fun i x j c hx hc => by
          rw [hL2.1, hL2.2, cell_at hh', hspl]
          obtain ⟨hj, ⟨hil, u, _, hu, hd, hr⟩ | ⟨hil, hil2, u, hu, hd, hr⟩⟩ := hparts i x j c hx hc
          · refine ⟨u, ?_, hd, hr⟩
            have : (i + 1) * E.S.sz e ≤ L.len * E.S.sz e := Nat.mul_le_mul_right _ (by omega)
            rw [Nat.add_mul, Nat.one_mul] at this
            rw [if_neg (by omega)]
            rw [cell_at hh] at hu; exact hu
          · refine ⟨u, ?_, hd, hr⟩
            have hlt := (List.getElem?_eq_some_iff.1 hu).1
            have hmul : i * E.S.sz e = L.len * E.S.sz e + (i - l0.length) * E.S.sz e := by rw [← Nat.add_mul]; congr 1; omega
            rw [if_pos (by omega), show L.o + (i * E.S.sz e + j) - (L.o + L.len * E.S.sz e) = (i - l0.length) * E.S.sz e + j by omega]
            exact hu)
      exact this
  · have hLlen := hD.len
    have hfo : ∀ w2 : World, w2.heap = w.heap → (Builtin.firstCells i.size L.len (.slice L.addr L.len L.cap)).run P w2 = .ok olds.toArray w2 := fun w2 hw => by
      have := hof w2 hw
      rw [← hLlen] at this
      rw [hsize]; exact this
    have hrun := run_append_more (ty := ty) hund hi hz hud hdk hnlen hf hfo (by omega) hb0 (by rw [hLlen]; exact hroom')
    refine ⟨_, _, hrun, ?_⟩
    have hge := grownCap_ge w (L.len + l.length) L.cap e
    have hzs : z.cells.size = E.S.sz e := by rw [← hzl, ← hzc, Array.length_toList]
    have hCh : Chg (fun _ _ => False) w (w.drew.alloc (.cells (olds.toArray ++ news.toArray ++ Builtin.zeroCells z.cells (grownCap w (L.len + l.length) L.cap e - (L.len + l.length))) e)) := (Chg.drew _ w).trans (Chg.alloc _ w.drew _)
    have hh' := heap_alloc_new w.drew (.cells (olds.toArray ++ news.toArray ++ Builtin.zeroCells z.cells (grownCap w (L.len + l.length) L.cap e - (L.len + l.length))) e)
    have hwd : w.drew.heap.size = w.heap.size := rfl
    have hPlt : ∀ i j k, PP i j k → k < w.heap.size := fun i j k hp => by
      obtain ⟨id, b, o, q1, _, _, _, q5⟩ := hPP i j k hp
      exact hR.cellLt q1 q5
    have hal : ∀ m, (olds.toArray ++ news.toArray ++ Builtin.zeroCells z.cells (grownCap w (L.len + l.length) L.cap e - (L.len + l.length)))[m]? = if m < olds.length + news.length then (olds ++ news)[m]? else (olds.toArray ++ news.toArray ++ Builtin.zeroCells z.cells (grownCap w (L.len + l.length) L.cap e - (L.len + l.length)))[m]? := fun m => by
      by_cases hm : m < olds.length + news.length
      · rw [if_pos hm, Array.getElem?_append_left (by simpa using hm)]; simp
      · rw [if_neg hm]
    have := newDeep_ok (L := ⟨some ⟨w.heap.size, 0, none⟩, L.len + l.length, grownCap w (L.len + l.length) L.cap e, E.S.sz e⟩) hR hH h hG (O := fun _ _ => False) (fun _ _ h => h.elim) hCh (by simp [hLlen]) rfl (by rw [List.length_append, ← hLlen]; exact hge)
      (fun ad had => (by cases had; unfold World.shape?; rw [← hwd, hh']; rfl)) (fun _ => ⟨rfl, _, _, hh', by
        simp only [Array.size_append, List.size_toArray, size_zeroCells, hzs, hol, hnl, ← Nat.add_mul]
        simp only [Loc.o, Option.getD_some, Nat.zero_add]
        exact Nat.mul_le_mul_right _ (by omega), fun k _ _ hk => by simp at hk⟩) (fun _ => .inl (Nat.le_refl _)) PP hPP (fun _ _ _ _ _ h => h) (fun i j k hp => by
        have := hPlt i j k hp
        show k ≠ w.heap.size
        omega) hsep
      (fun i x j c hx hc => by
        have hcell : ∀ m, (w.drew.alloc (.cells (olds.toArray ++ news.toArray ++ Builtin.zeroCells z.cells (grownCap w (L.len + l.length) L.cap e - (L.len + l.length))) e)).cell? ⟨w.heap.size, 0 + m, none⟩ = (olds.toArray ++ news.toArray ++ Builtin.zeroCells z.cells (grownCap w (L.len + l.length) L.cap e - (L.len + l.length)))[m]? := fun m => by
          rw [Nat.zero_add]; exact cell_at hh' m
        show ∃ u, (w.drew.alloc _).cell? ⟨w.heap.size, 0 + (i * E.S.sz e + j), none⟩ = some u ∧ _
        rw [hcell, hal]
        obtain ⟨hj, ⟨hil, u, hu, _, hd, hr⟩ | ⟨hil, hil2, u, hu, hd, hr⟩⟩ := hparts i x j c hx hc
        · refine ⟨u, ?_, hd, hr⟩
          have hlt := (List.getElem?_eq_some_iff.1 hu).1
          rw [if_pos (by omega), List.getElem?_append_left hlt]
          exact hu
        · refine ⟨u, ?_, hd, hr⟩
          have hlt := (List.getElem?_eq_some_iff.1 hu).1
          have hmul : i * E.S.sz e = olds.length + (i - l0.length) * E.S.sz e := by rw [hol, ← Nat.add_mul]; congr 1; omega
          rw [if_pos (by omega), List.getElem?_append_right (by omega), show i * E.S.sz e + j - olds.length = (i - l0.length) * E.S.sz e + j by omega]
          exact hu)
    exact this
theorem dAppend_ok (hE : EnvOk P E) (hR : Rel E.S (fun i => i < st.nx) φ Fz st.heap w) {t u ty : TypeId} {e : Nat} (ht : sliceOf E t = some e) (hu : (isSlice (kindOf E u) || isStr (kindOf E u)) = true) {s x : Cell E.S.K} {sv xv : Value}
    (hs : CRep E.S (fun i => i < st.nx) φ Fz w s sv) (hx : CRep E.S (fun i => i < st.nx) φ Fz w x xv) {k : Kn E R} {r : R} (h : dAppend E st e (bytesOf E e) s x k = some r) {next : Value → World → Prop} (hG : Goal E.S φ Fz st w k r next) :
    ∃ v w', (Builtin.append_ #[t, u] ty #[sv, xv]).run P w = .ok v w' ∧ next v w' := by
  obtain ⟨hund, i, z, ed, _, hi, hsize, hbytes, _, hb0, hz, hzc, hzl, hsz⟩ := hE.sliceOf ht
  obtain ⟨d, hud, hdk⟩ : ∃ d, P.underlying u = some d ∧ ((∃ e', d = .slice e') ∨ d = .string) := by
    cases hk : kindOf E u <;> rw [hk] at hu <;> simp [isSlice, isStr] at hu
    · obtain ⟨d, h1, h2⟩ := hE.kind hk (by simp); exact ⟨d, h1, .inr h2⟩
    · obtain ⟨d, h1, h2⟩ := hE.kind hk (by simp); exact ⟨d, h1, .inl ⟨_, h2⟩⟩
  unfold dAppend at h
  split at h
  · exact dAppendD_ok hE hR ht hu hs hx h hG
  rename_i hdeep
  clear hdeep
  split at h
  · -- nothing to append
    have hxv : xv = .slice none 0 0 := hx
    subst hxv
    have hnil : ∀ w2, (Builtin.lenOf (.slice none 0 0)).run P w2 = .ok 0 w2 := fun w2 => by simp [Builtin.lenOf]
    have hfn : ∀ w2 : World, w2.heap = w.heap → (Builtin.firstCells i.size 0 (.slice none 0 0)).run P w2 = .ok ([] : List Value).toArray w2 := fun w2 _ => by simp [Builtin.firstCells]
    split at h
    · have hsv : sv = .slice none 0 0 := hs
      subst hsv
      exact ⟨_, _, run_append_fit (w' := w) hund hi hud hdk hnil hfn (Nat.le_refl _) rfl, hG _ _ _ _ _ _ h (After.refl hR) rfl⟩
    · next id =>
      split at h
      · next e' l hg =>
        obtain ⟨hd, rfl⟩ := hs
        have hB := hR.rep _ _ hg
        refine ⟨_, _, run_append_fit (w' := w) hund hi hud hdk hnil hfn (by have := hB.1; have := hB.2.2.1; omega) ?_, hG _ _ _ _ _ _ h (After.refl hR) ⟨hd, rfl⟩⟩
        cases (φ id).addr <;> simp [storeCells]
      · cases h
    · cases h
  · split at h
    · next l0 H l hb hl =>
      unfold sif at h
      split at h
      · next hroom =>
        obtain ⟨L, rfl, hB, hH, hown⟩ := base_ok hE hR hb hs
        obtain ⟨news, hsrc⟩ := elems_ok hE hR hsz hl hx
        obtain ⟨hLlen, hLsz, hLcap, hLsh, hLr⟩ := hB
        have hnl := hsrc.vals.len
        have hroom' : (l0.length + l.length) * i.bytes ≤ 140737488355328 := by
          rw [hbytes]; exact Nat.le_of_ble_eq_true hroom
        have hf : ∀ w2 : World, w2.heap = w.heap → (Builtin.firstCells i.size l.length xv).run P w2 = .ok news.toArray w2 := fun w2 hw => by
          rw [hsize, hsrc.first w2 l.length hw (Nat.le_refl _), List.take_of_length_le (by omega)]
        by_cases hfit : L.len + l.length ≤ L.cap
        · -- in place
          by_cases h0 : L.cap = 0
          · have e1 : l0 = [] := List.eq_nil_of_length_eq_zero (by omega)
            have e2 : l = [] := List.eq_nil_of_length_eq_zero (by omega)
            subst e1 e2
            have hn0 : news = [] := List.eq_nil_of_length_eq_zero (by simpa using hnl)
            subst hn0
            have hst : (match L.addr with | some a => (storeCells (a.add (L.len * i.size)) []).run P w | none => .ok () w) = .ok () w := by
              cases L.addr <;> simp [storeCells]
            refine ⟨_, _, run_append_fit hund hi hud hdk hsrc.len hf hfit hst, ?_⟩
            have hA := After.repl hR hH (O := fun _ _ => False) (fun _ _ h => h.elim) (Chg.refl _ w) ⟨L.addr, 0, 0, E.S.sz e⟩ (.vec true e ([] ++ [])) ⟨rfl, rfl, Nat.le_refl _, hLsh, fun h => absurd rfl h⟩ (fun k o hc => absurd rfl hc.1) rfl
            refine hG _ _ _ _ _ _ h hA ⟨Nat.lt_succ_self _, ?_⟩
            rw [upd_same]
            have : L.len = 0 := by simpa using hLlen
            simp [this, h0]
          · obtain ⟨ha, _, cur, el, fz, hh, he, hs', hun, hcells⟩ := hLr h0
            rw [he] at hh
            have hun := hun rfl
            obtain ⟨id, b0, hg0, hbo, hgH, hcl⟩ := hown h0
            have hle : (L.len + l.length) * E.S.sz e ≤ L.cap * E.S.sz e := Nat.mul_le_mul_right _ hfit
            rw [Nat.add_mul] at hle
            have hst := storeCells_run P L.b (L.o + L.len * E.S.sz e) e fz news 0 cur w hh (by rw [hnl]; omega) hsrc.vals.one (fun k h1 h2 => hun k (by omega) (by rw [hnl] at h2; omega))
            have hst' : (match L.addr with | some a => (storeCells (a.add (L.len * i.size)) news).run P w | none => .ok () w) = .ok () (w.setRow L.b (cur.toList.take (L.o + L.len * E.S.sz e) ++ news ++ cur.toList.drop (L.o + L.len * E.S.sz e + news.length)).toArray) := by
              rw [ha]
              simp only [add_lit, hsize]
              simpa using hst
            refine ⟨_, _, run_append_fit hund hi hud hdk hsrc.len hf hfit hst', ?_⟩
            have hspl : ∀ j, (cur.toList.take (L.o + L.len * E.S.sz e) ++ news ++ cur.toList.drop (L.o + L.len * E.S.sz e + news.length)).toArray[j]? = if L.o + L.len * E.S.sz e ≤ j ∧ j < L.o + L.len * E.S.sz e + news.length then news[j - (L.o + L.len * E.S.sz e)]? else cur[j]? := fun j => by
              have hls : L.o + L.len * E.S.sz e + news.length ≤ cur.toList.length := by have h1 : cur.toList.length = cur.size := Array.length_toList; omega
              rw [List.getElem?_toArray, splice_get _ _ _ _ hls]
              simp
            have hC : Chg (fun (k o : Nat) => k = L.b) w (w.setRow L.b (cur.toList.take (L.o + L.len * E.S.sz e) ++ news ++ cur.toList.drop (L.o + L.len * E.S.sz e + news.length)).toArray) :=
              setRow_chg hh (fun x hx => absurd rfl hx) ⟨0, rfl⟩ (by have h2 : cur.toList.length = cur.size := Array.length_toList; simp only [List.size_toArray, List.length_append, List.length_take, List.length_drop, h2]; omega)
            have hnf : ∀ (k o : Nat), k = L.b → ¬ Fz k := fun k o hk => by rw [hk]; exact hR.fz id b0 hg0 hbo L.b 0 (hcl 0)
            -- the values that lie there now
            obtain ⟨olds, hov, hop⟩ := vals_of (Fz := Fz) (w := w) hsz l0 (fun m v => cur[L.o + m]? = some v) (fun i x j c hx hc => hcells i x j c hx hc)
            have hol := hov.len
            have hB' : BRep E.S (fun i => i < st.nx) φ Fz (w.setRow L.b (cur.toList.take (L.o + L.len * E.S.sz e) ++ news ++ cur.toList.drop (L.o + L.len * E.S.sz e + news.length)).toArray) ⟨L.addr, l0.length + l.length, L.cap, E.S.sz e⟩ (.vec true e (l0 ++ l)) := by
              refine brep_vec (L := ⟨L.addr, l0.length + l.length, L.cap, E.S.sz e⟩) (b := L.b) (o := L.o) ha (by simp) rfl (by simp; omega) (setRow_heap w L.b cur _ e fz hh) ?_ hun ((hov.append hsrc.vals).keep hC (fun k o h => hnf k o h) (fun _ h => h)) (fun m v hm => ?_)
              · simp only [List.size_toArray, List.length_append, List.length_take, List.length_drop, Array.length_toList]
                omega
              · rw [hspl]
                rw [List.getElem?_append] at hm
                by_cases hml : m < olds.length
                · rw [if_pos hml] at hm
                  rw [if_neg (by rw [hol] at hml; rw [hLlen]; omega)]
                  exact hop m v hm
                · rw [if_neg hml] at hm
                  have hml2 : m - olds.length < news.length := (List.getElem?_eq_some_iff.1 hm).1
                  rw [hol] at hml hml2 hm
                  rw [if_pos (by rw [hLlen]; omega)]
                  rw [← hm]; congr 1; rw [hLlen]; omega
            have hA := After.repl hR hH (O := fun (k o : Nat) => k = L.b) (fun k o hk => ⟨id, b0, hg0, hbo, hgH, by rw [hk]; exact hcl o⟩) hC _ (.vec true e (l0 ++ l)) hB' (fun k o hc => .inr (.inl (hc.2.trans (addr_b ha).1))) rfl
            refine hG _ _ _ _ _ _ h hA ⟨Nat.lt_succ_self _, ?_⟩
            rw [upd_same, hLlen]
        · -- in new memory
          obtain ⟨olds, hso⟩ := src_of_vec (P := P) (w := w) (φ := φ) (Fz := Fz) hsz (D := fun i => i < st.nx) (L := L) (own := true) ⟨hLlen, hLsz, hLcap, hLsh, hLr⟩
          have hol := hso.vals.len
          have hfo : ∀ w2 : World, w2.heap = w.heap → (Builtin.firstCells i.size L.len (.slice L.addr L.len L.cap)).run P w2 = .ok olds.toArray w2 := fun w2 hw => by
            rw [hsize, hLlen]
            have := hso.first w2 l0.length hw (Nat.le_refl _)
            rw [List.take_of_length_le (by omega)] at this
            rw [hLlen] at this
            exact this
          have hrun := run_append_more (ty := ty) hund hi hz hud hdk hsrc.len hf hfo (by omega) hb0 (by rw [hLlen]; exact hroom')
          refine ⟨_, _, hrun, ?_⟩
          have hge := grownCap_ge w (L.len + l.length) L.cap e
          have hzs : z.cells.size = E.S.sz e := by rw [← hzl, ← hzc, Array.length_toList]
          have hCh : Chg (fun _ _ => False) w (w.drew.alloc (.cells (olds.toArray ++ news.toArray ++ Builtin.zeroCells z.cells (grownCap w (L.len + l.length) L.cap e - (L.len + l.length))) e)) := (Chg.drew _ w).trans (Chg.alloc _ w.drew _)
          have hfin := newVec_ok (w1 := w) hR hH h hG hCh (b := w.heap.size) (Nat.le_refl _) (cap := grownCap w (L.len + l.length) L.cap e) (heap_alloc_new w.drew _) (by rw [List.length_append]; omega)
            (by
              simp only [Array.size_append, List.size_toArray, size_zeroCells, hzs, hol, hnl, ← Nat.add_mul]
              exact Nat.mul_le_mul_right _ (by omega))
            (fun k _ hk => by simp at hk) (hso.vals.append hsrc.vals) (fun m v hm => by
              have : m < olds.length + news.length := by have := (List.getElem?_eq_some_iff.1 hm).1; simpa using this
              rw [Array.getElem?_append_left (by simpa using this)]
              simpa using hm)
          rw [List.length_append, ← hLlen] at hfin
          exact hfin
      · cases h
    · cases h
end
end Go.Ve

namespace Go.Ve
open Go.RowKit
set_option linter.unusedVariables false
set_option linter.unusedSimpArgs false

section
variable {P : Program} {E : Env} {R : Type} {φ : Nat → Loc} {Fz : Nat → Prop} {st : St E.S.K} {w : World}

theorem coerces_ok (hR : Rel E.S (fun i => i < st.nx) φ Fz st.heap w) : ∀ {ts : List TS} {cs cs' : List (Cell E.S.K)} {fr : List Nat}, coerces st.heap ts cs = some (cs', fr) → ∀ {vs : List Value}, All2 (CRep E.S (fun i => i < st.nx) φ Fz w) cs vs → All2 (TRep E.S (FzA φ Fz st.heap w fr) w) cs' vs
  | [], [], cs', fr, h, vs, hv => by cases h; cases hv; exact .nil
  | t :: ts, c :: cs, cs', fr, h, vs, hv => by
    simp only [coerces] at h
    split at h
    · next c1 f cs1 g h1 h2 =>
      cases h
      cases hv with
      | cons hc ht =>
        exact .cons ((coerce_ok hR h1 hc).1.fz (FzA.mono fun _ h => List.mem_append_left _ h)) (forall₂_imp (fun _ _ h => TRep.fz (FzA.mono fun _ h => List.mem_append_right _ h) h) (coerces_ok hR h2 ht))
    · cases h
  | [], _ :: _, _, _, h, _, _ => by simp [coerces] at h
  | _ :: _, [], _, _, h, _, _ => by simp [coerces] at h
theorem asRow_ok (hR : Rel E.S (fun i => i < st.nx) φ Fz st.heap w) {e : Nat} {cs : List (Cell E.S.K)} {x : E.S.K e} {fr : List Nat} (h : asRow E st e cs = some (x, fr)) {vs : List Value} (hv : All2 (CRep E.S (fun i => i < st.nx) φ Fz w) cs vs) :
    All2 (TRep E.S (FzA φ Fz st.heap w fr) w) (E.S.enc e x) vs := by
  unfold asRow at h
  split at h
  · next cs1 fr1 h1 =>
    split at h
    · next x1 h2 =>
      cases h
      rw [E.S.enc_dec e _ _ h2]
      exact coerces_ok hR h1 hv
    · cases h
  · cases h

theorem row_of_cells {b o n : Nat} (hn : 0 < n) (h : ∀ j, j < n → (∃ u, w.cell? ⟨b, o + j, none⟩ = some u) ∧ w.frozen? ⟨b, o + j, none⟩ = false) :
    ∃ cur el fz, w.heap[b]? = some (.cells cur el fz) ∧ o + n ≤ cur.size ∧ ∀ k, o ≤ k → k < o + n → ¬ (fz.1 ≤ k ∧ k < fz.2) := by
  obtain ⟨⟨u, hu⟩, _⟩ := h 0 hn
  cases hb : w.heap[b]? with
  | none => simp [World.cell?, hb] at hu
  | some ob =>
    cases ob with
    | cells cur el fz =>
      refine ⟨cur, el, fz, rfl, ?_, fun k h1 h2 => ?_⟩
      · obtain ⟨⟨u', hu'⟩, _⟩ := h (n - 1) (by omega)
        rw [cell_at hb] at hu'
        have := (Array.getElem?_eq_some_iff.1 hu').1
        omega
      · have := (h (k - o) (by omega)).2
        simp only [World.frozen?, hb] at this
        rw [show o + (k - o) = k by omega] at this
        simp at this
        omega
    | _ => simp [World.cell?, hb] at hu

theorem store_run {b o : Nat} {vs : List Value} (h1 : ∀ v ∈ vs, v.oneCell' = true) (h : ∀ j, j < vs.length → (∃ u, w.cell? ⟨b, o + j, none⟩ = some u) ∧ w.frozen? ⟨b, o + j, none⟩ = false) :
    ∃ w', (storeCells ⟨b, o, none⟩ vs).run P w = .ok () w' ∧ Chg (fun k x => k = b ∧ o ≤ x ∧ x < o + vs.length) w w' ∧ (∀ j v, vs[j]? = some v → w'.cell? ⟨b, o + j, none⟩ = some v) ∧
      ∀ cur el fz, w.heap[b]? = some (.cells cur el fz) → ∃ new : Array Value, w'.heap[b]? = some (.cells new el fz) ∧ new.size = cur.size ∧ ∀ j, new[j]? = if o ≤ j ∧ j < o + vs.length then vs[j - o]? else cur[j]? := by
  by_cases hn : vs.length = 0
  · have : vs = [] := List.eq_nil_of_length_eq_zero hn
    subst this
    refine ⟨w, by simp [storeCells], Chg.refl _ _, fun j v hj => by simp at hj, fun cur el fz hh => ⟨cur, hh, rfl, fun j => ?_⟩⟩
    rw [if_neg (by simp only [List.length_nil]; omega)]
  · obtain ⟨cur, el, fz, hh, hs, hz⟩ := row_of_cells (w := w) (b := b) (o := o) (n := vs.length) (by omega) h
    have hrun := storeCells_run P b o el fz vs 0 cur w hh (by simpa using hs) h1 (by simpa using hz)
    rw [Nat.add_zero] at hrun
    have hls : o + vs.length ≤ cur.toList.length := by have h1 : cur.toList.length = cur.size := Array.length_toList; omega
    have hget : ∀ j, (cur.toList.take o ++ vs ++ cur.toList.drop (o + vs.length)).toArray[j]? = if o ≤ j ∧ j < o + vs.length then vs[j - o]? else cur[j]? := fun j => by
      rw [List.getElem?_toArray, splice_get _ _ _ _ hls]; simp
    refine ⟨_, hrun, setRow_chg hh (fun x hx => ?_) ⟨o, rfl, Nat.le_refl _, by omega⟩ (by have h2 : cur.toList.length = cur.size := Array.length_toList; simp only [List.size_toArray, List.length_append, List.length_take, List.length_drop, h2]; omega), fun j v hj => ?_, fun cur' el' fz' hh' => ?_⟩
    · rw [hget, if_neg (fun h => hx ⟨rfl, h⟩)]
    · rw [cell_at (setRow_heap w b cur _ el fz hh), hget, if_pos ⟨by omega, by have := (List.getElem?_eq_some_iff.1 hj).1; omega⟩]
      rw [show o + j - o = j by omega]; exact hj
    · rw [hh] at hh'; cases hh'
      refine ⟨_, setRow_heap w b cur _ el fz hh, ?_, hget⟩
      have h2 : cur.toList.length = cur.size := Array.length_toList
      simp only [List.size_toArray, List.length_append, List.length_take, List.length_drop, h2]
      omega

theorem full_ok {K : Nat → Type} : ∀ {cs : List (Cell K)}, full cs = true → ∀ c ∈ cs, c ≠ .undef
  | [], _, c, h => by cases h
  | a :: l, h, c, hc => by
    rcases List.mem_cons.1 hc with rfl | hc
    · rintro rfl; simp [full] at h
    · refine full_ok (cs := l) ?_ c hc
      cases a <;> first | exact h | (simp [full] at h)
theorem all2_one {D : Nat → Prop} {cs : List (Cell E.S.K)} {vs : List Value} (h : All2 (CRep E.S D φ Fz w) cs vs) (hf : full cs = true) : ∀ v ∈ vs, v.oneCell' = true := by
  have hf' := full_ok hf
  clear hf
  induction h with
  | nil => intro v hv; cases hv
  | @cons c v l l' hc _ ih =>
    intro x hx
    rcases List.mem_cons.1 hx with rfl | hx
    · exact hc.one (hf' c (by simp))
    · exact ih (fun c hc => hf' c (List.mem_cons_of_mem _ hc)) x hx

theorem wrDeep_ok (hR : Rel E.S (fun i => i < st.nx) φ Fz st.heap w) {new : List (Cell E.S.K)} (hfull : full new = true) {vs : List Value} (hvs : All2 (CRep E.S (fun i => i < st.nx) φ Fz w) new vs) {id i off : Nat} {pv : Value} (hp : CRep E.S (fun i => i < st.nx) φ Fz w (.elt id i off) pv)
    {e : Nat} {l : List (E.S.K e)} (hg : get st.heap id = some (.deep e l none)) {k : St E.S.K → Option R} {r : R} (h : (match Nat.beq off 0 && Nat.beq new.length (E.S.sz e) with
      | true =>
        match asRowD E st e new with
        | some (x, ids) => chk (nodupIds ids && !mem id ids) (k { st with heap := put (dels ids st.heap) id (.deep e (l.set i x) none) })
        | none => none
      | false =>
        chk (Nat.ble (off + new.length) (E.S.sz e)) (sbind l[i]? fun x0 =>
          match coercesD st.heap (((E.S.sh e).drop off).take new.length) new with
          | some (cs, ids) =>
            match E.S.dec e (splice (E.S.enc e x0) cs off) with
            | some x => chk (nodupIds ids && !mem id ids) (k { st with heap := put (dels ids st.heap) id (.deep e (l.set i x) none) })
            | none => none
          | none => none)) = some r) {next : Value → World → Prop} (hG : ∀ st' φ' Fz' w', k st' = some r → After E.S φ Fz st w φ' Fz' st' w' → next undef w') :
    ∃ b o w', pv = .pointer (some ⟨b, o, none⟩) ∧ (storeCells ⟨b, o, none⟩ vs).run P w = .ok () w' ∧ next undef w' := by
  have hone := all2_one hvs hfull
  have hlen := hvs.len
  obtain ⟨hd, hil, rfl⟩ := hp
  have hB : Deep E.S (fun i => i < st.nx) φ w (φ id) e l none := hR.rep id _ hg
  have hl := hB.len
  have hcap := hB.cap
  have hc0 : (φ id).cap ≠ 0 := by omega
  obtain ⟨haddr, cur, fz, hh, hsz, hun⟩ := hB.mine hc0
  have hs := hB.sz
  have hilt : i < l.length := by omega
  have hown : ∀ o, cellsOf w (φ id) (.deep e l none) (φ id).b o := fun o => .inl ⟨hc0, rfl⟩
  have core : ∀ (x' : E.S.K e) (ids : List Nat) (f : Nat → Option Nat), (nodupIds ids && !mem id ids) = true → off + new.length ≤ E.S.sz e → (∀ j id, f j = some id → id ∈ ids) → (ids.Nodup → ∀ j j' id, f j = some id → f j' = some id → j = j') →
      (∀ j c, off ≤ j → j < off + new.length → (E.S.enc e x')[j]? = some c → ∃ u, vs[j - off]? = some u ∧ DRep E.S w c u ∧ ∀ k, Reach E.S w c u k → Taken w φ st.heap (f (j - off)) k) →
      (∀ j c, ¬ (off ≤ j ∧ j < off + new.length) → (E.S.enc e x')[j]? = some c → ∃ x0, l[i]? = some x0 ∧ (E.S.enc e x0)[j]? = some c) →
      k { st with heap := put (dels ids st.heap) id (.deep e (l.set i x') none) } = some r →
      ∃ b o w', ptrV (φ id) (i * (φ id).sz + off) = .pointer (some ⟨b, o, none⟩) ∧ (storeCells ⟨b, o, none⟩ vs).run P w = .ok () w' ∧ next undef w' := by
    intro x' ids f hck hoff hf1 hf2 hin hout hk
    simp only [Bool.and_eq_true, Bool.not_eq_true'] at hck
    have hnd := nodup_ids hck.1
    have hni : id ∉ ids := fun hm => by rw [(mem_iff id ids).2 hm] at hck; cases hck.2
    have hmul : (i + 1) * E.S.sz e ≤ (φ id).cap * E.S.sz e := Nat.mul_le_mul_right _ (by omega)
    rw [Nat.add_mul, Nat.one_mul] at hmul
    have hpre : ∀ j, j < vs.length → (∃ u, w.cell? ⟨(φ id).b, (φ id).o + (i * (φ id).sz + off) + j, none⟩ = some u) ∧ w.frozen? ⟨(φ id).b, (φ id).o + (i * (φ id).sz + off) + j, none⟩ = false := fun j hj => by
      rw [hs]
      refine ⟨⟨cur[(φ id).o + (i * E.S.sz e + off) + j]'(by omega), by rw [cell_at hh, Array.getElem?_eq_getElem]⟩, ?_⟩
      have := hun ((φ id).o + (i * E.S.sz e + off) + j) (by omega) (by omega)
      simp only [World.frozen?, hh]
      simp
      omega
    obtain ⟨w', hrun, hC, hnew, hblk⟩ := store_run (P := P) hone hpre
    obtain ⟨nw, hnw, hnws, hnwg⟩ := hblk cur e fz hh
    refine ⟨_, _, w', rfl, hrun, ?_⟩
    -- what a block that goes into the tree says
    have hT : ∀ q k, Taken w φ st.heap (f q) k → ∃ id0 b0, f q = some id0 ∧ get st.heap id0 = some b0 ∧ canFz b0 = true ∧ b0.own = true ∧ id0 ∈ ids ∧ id0 ≠ id ∧ ∀ o, cellsOf w (φ id0) b0 k o := fun q k ⟨id0, b0, o, h1, h2, h3, h4, h5⟩ =>
      ⟨id0, b0, h1, h2, h3, h4, hf1 q id0 h1, fun h => hni (h ▸ hf1 q id0 h1), fun o' => h5.any h3 o'⟩
    have hTb : ∀ q k, Taken w φ st.heap (f q) k → ∀ o, ¬ cellsOf w (φ id) (.deep e l none) k o := fun q k ht o hc => by
      obtain ⟨id0, b0, _, h2, _, h4, _, h6, h7⟩ := hT q k ht
      exact hR.dis id0 id b0 _ h2 hg h6 h4 k o (h7 o) hc
    have hRb : ∀ i' j' k, RA E.S w (φ id) e l i' j' k → k ≠ (φ id).b := fun i' j' k ⟨c, u, ha, hr⟩ => hB.out i' j' c u k ha noHole hr
    let PP : Nat → Nat → Nat → Prop := fun i' j' k => (i' = i ∧ (off ≤ j' ∧ j' < off + new.length) ∧ Taken w φ st.heap (f (j' - off)) k) ∨ (¬ (i' = i ∧ off ≤ j' ∧ j' < off + new.length) ∧ RA E.S w (φ id) e l i' j' k)
    have hPb : ∀ i' j' k, PP i' j' k → k ≠ (φ id).b := fun i' j' k hp => by
      rcases hp with ⟨_, _, ht⟩ | ⟨_, hr⟩
      · rintro rfl; exact hTb _ _ ht 0 (hown 0)
      · exact hRb i' j' k hr
    have hkeep : ∀ {c : Cell E.S.K} {u : Value}, DRep E.S w c u → (∀ k, Reach E.S w c u k → k ≠ (φ id).b) → DRep E.S w' c u ∧ ∀ k, Reach E.S w' c u k ↔ Reach E.S w c u k := fun {c u} hd hr => hd.keep hC fun k o hk hr' => hr k hr' hk.1
    obtain ⟨g1, g2⟩ := Deep.build (D := fun i => i < st.nx) (φ := φ) (w := w') (L := φ id) (e := e) (l := l.set i x') (by rw [hl, List.length_set]) hs (by rw [List.length_set]; exact hcap)
      (fun ad had => (by rw [haddr] at had; cases had; unfold World.shape?; rw [hnw]; rfl)) (fun _ => ⟨haddr, nw, fz, hnw, by rw [hnws]; exact hsz, hun⟩) PP (fun i' x j c hx hc => by
        have hj : j < E.S.sz e := by have := (List.getElem?_eq_some_iff.1 hc).1; rw [E.S.enc_length] at this; exact this
        rw [cell_at hnw, hnwg, hs]
        by_cases hii : i' = i ∧ off ≤ j ∧ j < off + new.length
        · obtain ⟨rfl, h1, h2⟩ := hii
          rw [List.getElem?_set, if_pos rfl, if_pos hilt] at hx
          cases hx
          obtain ⟨u, hu, hdr, hr⟩ := hin j c h1 h2 hc
          obtain ⟨d1, d2⟩ := hkeep hdr (fun k hk => by rintro rfl; exact hTb _ _ (hr _ hk) 0 (hown 0))
          refine ⟨u, ?_, d1, fun k hk => .inl ⟨rfl, ⟨h1, h2⟩, hr k ((d2 k).1 hk)⟩⟩
          rw [if_pos (by omega), show (φ id).o + (i' * E.S.sz e + j) - ((φ id).o + (i' * E.S.sz e + off)) = j - off by omega]
          exact hu
        · have hold : ∃ x0, l[i']? = some x0 ∧ (E.S.enc e x0)[j]? = some c := by
            rw [List.getElem?_set] at hx
            by_cases he : i = i'
            · subst he
              rw [if_pos rfl, if_pos hilt] at hx
              cases hx
              exact hout j c (fun h => hii ⟨rfl, h⟩) hc
            · rw [if_neg he] at hx; exact ⟨x, hx, hc⟩
          obtain ⟨x0, hx0, hc'⟩ := hold
          obtain ⟨u, hu, hdr⟩ := hB.part i' x0 j c hx0 hc' noHole
          have hat : At E.S w (φ id).b (φ id).o e l i' j c u := ⟨x0, hx0, hc', hu⟩
          obtain ⟨d1, d2⟩ := hkeep hdr (fun k hk => hB.out i' j c u k hat noHole hk)
          refine ⟨u, ?_, d1, fun k hk => .inr ⟨hii, c, u, hat, (d2 k).1 hk⟩⟩
          rw [if_neg ?_]
          · rw [cell_at hh] at hu; exact hu
          · rintro ⟨h1, h2⟩
            rcases Nat.lt_trichotomy i i' with hlt | heq | hlt
            · have : (i + 1) * E.S.sz e ≤ i' * E.S.sz e := Nat.mul_le_mul_right _ hlt
              rw [Nat.add_mul, Nat.one_mul] at this
              omega
            · subst heq
              exact hii ⟨rfl, by omega, by omega⟩
            · have : (i' + 1) * E.S.sz e ≤ i * E.S.sz e := Nat.mul_le_mul_right _ hlt
              rw [Nat.add_mul, Nat.one_mul] at this
              omega) hPb (fun i1 j1 i2 j2 k h1 h2 => by
        rcases h1 with ⟨a1, a2, a3⟩ | ⟨a1, a2⟩ <;> rcases h2 with ⟨b1, b2, b3⟩ | ⟨b1, b2⟩
        · have hsame := Taken.same hR a3 b3
          obtain ⟨id0, _, e1, _⟩ := hT _ _ a3
          have := hf2 hnd _ _ id0 e1 (hsame ▸ e1)
          exact ⟨a1.trans b1.symm, by omega⟩
        · exact (hTb _ _ a3 0 b2.cells).elim
        · exact (hTb _ _ b3 0 a2.cells).elim
        · exact RA.sep hB a2 b2)
    refine hG _ _ _ _ hk (After.putD hR hg rfl rfl (fun id' b' hb' => by
      rw [get_dels] at hb'
      split at hb'
      · cases hb'
      · exact hb') (hC.mono fun k o _ hk => .inl ⟨hc0, hk.1⟩) (fun k o hc => ?_) g1)
    rcases g2 k o hc with h | ⟨i', j', h⟩
    · exact .inl (.inl h)
    · rcases h with ⟨_, _, ht⟩ | ⟨_, hr⟩
      · obtain ⟨id0, b0, _, h2, _, h4, h5, h6, h7⟩ := hT _ _ ht
        exact .inr ⟨id0, b0, h2, h4, h6, by rw [get_dels, if_pos h5], h7 o⟩
      · exact .inl (hr.cells.any (b := .deep e l none) rfl o)
  split at h
  · next hwhole =>
    simp only [Bool.and_eq_true] at hwhole
    have e0 := beq_yes hwhole.1
    have e1 := beq_yes hwhole.2
    split at h
    · next x' ids hrow =>
      cases hm : (nodupIds ids && !mem id ids) with
      | false => rw [hm] at h; cases h
      | true =>
        rw [hm] at h
        obtain ⟨hl1, f, f1, f2, f3⟩ := asRowD_ok hR hrow hvs
        refine core x' ids f hm (by omega) f1 f2 (fun j c h1 h2 hc => ?_) (fun j c hno hc => ?_) h
        · rw [e0, Nat.sub_zero]; exact f3 j c hc
        · have hj : j < E.S.sz e := by have := (List.getElem?_eq_some_iff.1 hc).1; rw [E.S.enc_length] at this; exact this
          exact (hno ⟨by omega, by omega⟩).elim
    · cases h
  · cases hb : Nat.ble (off + new.length) (E.S.sz e) with
    | false => rw [hb] at h; cases h
    | true =>
      rw [hb] at h
      have hb := Nat.le_of_ble_eq_true hb
      dsimp only [chk] at h
      unfold sbind at h
      split at h
      · next x0 hx0 =>
        dsimp only at h
        split at h
        · next cs ids hcs =>
          split at h
          · next x' hdec =>
            cases hm : (nodupIds ids && !mem id ids) with
            | false => rw [hm] at h; cases h
            | true =>
              rw [hm] at h
              obtain ⟨hl1, hl2, f, f1, f2, f3⟩ := coercesD_ok hR hcs hvs
              have henc := E.S.enc_dec e _ x' hdec
              have hsl : off + cs.length ≤ (E.S.enc e x0).length := by rw [E.S.enc_length, hl1, ← hlen]; exact hb
              refine core x' ids f hm hb f1 f2 (fun j c h1 h2 hc => ?_) (fun j c hno hc => ?_) h
              · rw [henc, splice_at hsl, if_pos ⟨h1, by omega⟩] at hc
                exact f3 _ c hc
              · rw [henc, splice_at hsl, if_neg (by omega)] at hc
                exact ⟨x0, hx0, hc⟩
          · cases h
        · cases h
      · cases h
/-- a write through a pointer -/
theorem wrPtr_ok (hR : Rel E.S (fun i => i < st.nx) φ Fz st.heap w) {new : List (Cell E.S.K)} (hfull : full new = true) {vs : List Value} (hvs : All2 (CRep E.S (fun i => i < st.nx) φ Fz w) new vs) {p : Cell E.S.K} {pv : Value} (hp : CRep E.S (fun i => i < st.nx) φ Fz w p pv)
    {k : St E.S.K → Option R} {r : R} (h : wrPtr E st new p k = some r) {next : Value → World → Prop} (hG : ∀ st' φ' Fz' w', k st' = some r → After E.S φ Fz st w φ' Fz' st' w' → next undef w') :
    ∃ b o w', pv = .pointer (some ⟨b, o, none⟩) ∧ (storeCells ⟨b, o, none⟩ vs).run P w = .ok () w' ∧ next undef w' := by
  have hone := all2_one hvs hfull
  have hlen := hvs.len
  unfold wrPtr at h
  split at h
  · next id off =>
    split at h
    · next cs hg =>
      cases hb : Nat.ble (off + new.length) cs.length with
      | false => rw [hb] at h; cases h
      | true =>
        rw [hb] at h
        have hb := Nat.le_of_ble_eq_true hb
        obtain ⟨haddr, hcells⟩ := hR.rep id _ hg
        have hpre : ∀ j, j < vs.length → (∃ u, w.cell? ⟨(φ id).b, (φ id).o + off + j, none⟩ = some u) ∧ w.frozen? ⟨(φ id).b, (φ id).o + off + j, none⟩ = false := fun j hj => by
          obtain ⟨u, h1, _, h3⟩ := hcells (off + j) cs[off + j] (List.getElem?_eq_getElem (by omega))
          rw [← Nat.add_assoc] at h1 h3
          exact ⟨⟨u, h1⟩, h3 rfl⟩
        obtain ⟨w', hrun, hC, hnew, _⟩ := store_run (P := P) hone hpre
        refine ⟨_, _, w', hp.2, hrun, hG _ _ _ _ h (After.put hR hg rfl rfl (hC.mono fun k o _ hk => ⟨hk.1, by omega, by omega⟩) (fun k o => ?_) ⟨haddr, fun j c hj => ?_⟩)⟩
        · simp only [cellsOf, splice_len hb]
        · have hOfz : ∀ k o, (k = (φ id).b ∧ (φ id).o + off ≤ o ∧ o < (φ id).o + off + vs.length) → ¬ Fz k := fun k o hk => hR.fz id _ hg rfl k o ⟨hk.1, by omega, by omega⟩
          rw [splice_at hb] at hj
          by_cases hin : off ≤ j ∧ j < off + new.length
          · rw [if_pos hin] at hj
            obtain ⟨u, hu, hr⟩ := hvs.get hj
            have h1 := hnew (j - off) u hu
            rw [show (φ id).o + off + (j - off) = (φ id).o + j by omega] at h1
            refine ⟨u, h1, hr.keep hC hOfz (fun _ h => h) (fun _ h => h) (fun _ _ => rfl), fun _ => ?_⟩
            obtain ⟨_, _, _, h3⟩ := hcells j cs[j] (List.getElem?_eq_getElem (by omega))
            have h3 := h3 rfl
            -- the mark of a cell does not turn by a store
            obtain ⟨cur, el, fz, hh, _, hz⟩ := row_of_cells (w := w) (b := (φ id).b) (o := (φ id).o + off) (n := vs.length) (by omega) hpre
            obtain ⟨w2, hrun2, _, _, hblk⟩ := store_run (P := P) hone hpre
            rw [hrun] at hrun2; cases hrun2
            obtain ⟨nw, hnw, _, _⟩ := hblk cur el fz hh
            simp only [World.frozen?, hnw]
            simp only [World.frozen?, hh] at h3
            exact h3
          · rw [if_neg hin] at hj
            obtain ⟨u, h1, h2, h3⟩ := hcells j c hj
            have hlt : j < cs.length := (List.getElem?_eq_some_iff.1 hj).1
            have := hC.cell (φ id).b ((φ id).o + j) (lt_of_cell h1) (fun hk => hin (by omega))
            exact ⟨u, by rw [this.1]; exact h1, h2.keep hC hOfz (fun _ h => h) (fun _ h => h) (fun _ _ => rfl), fun ho => by rw [this.2]; exact h3 ho⟩
    · cases h
  · next id i off =>
    split at h
    · next e l hg =>
      obtain ⟨hd, hil, rfl⟩ := hp
      have hB := hR.rep id _ hg
      obtain ⟨hl, hs, hcap, hsh, hr⟩ := hB
      have hc0 : (φ id).cap ≠ 0 := by omega
      obtain ⟨haddr, _, cur, el, fz, hh, hel, hsz, hun, hcells⟩ := hr hc0
      have hun := hun rfl
      have hilt : i < l.length := by omega
      -- what is shown in either case: the row x' in place of row i
      have core : ∀ (x' : E.S.K e) (fr : List Nat) (vrow : List Value), All2 (TRep E.S (FzA φ Fz st.heap w fr) w) (E.S.enc e x') vrow → mem id fr = false → off + new.length ≤ E.S.sz e →
          (∀ j v, vs[j]? = some v → vrow[off + j]? = some v) → (∀ j v, vrow[j]? = some v → ¬ (off ≤ j ∧ j < off + vs.length) → cur[(φ id).o + (i * E.S.sz e + j)]? = some v) →
          k { st with heap := put (freeze fr st.heap) id (.vec true e (l.set i x')) } = some r →
          ∃ b o w', ptrV (φ id) (i * (φ id).sz + off) = .pointer (some ⟨b, o, none⟩) ∧ (storeCells ⟨b, o, none⟩ vs).run P w = .ok () w' ∧ next undef w' := by
        intro x' fr vrow hrow hmem hoff hv1 hv2 hk
        have hmul : (i + 1) * E.S.sz e ≤ (φ id).cap * E.S.sz e := Nat.mul_le_mul_right _ (by omega)
        rw [Nat.add_mul, Nat.one_mul] at hmul
        have hpre : ∀ j, j < vs.length → (∃ u, w.cell? ⟨(φ id).b, (φ id).o + (i * (φ id).sz + off) + j, none⟩ = some u) ∧ w.frozen? ⟨(φ id).b, (φ id).o + (i * (φ id).sz + off) + j, none⟩ = false := fun j hj => by
          rw [hs]
          refine ⟨⟨cur[(φ id).o + (i * E.S.sz e + off) + j]'(by omega), by rw [cell_at hh, Array.getElem?_eq_getElem]⟩, ?_⟩
          have := hun ((φ id).o + (i * E.S.sz e + off) + j) (by omega) (by omega)
          simp only [World.frozen?, hh]
          simp
          omega
        obtain ⟨w', hrun, hC, hnew, hblk⟩ := store_run (P := P) hone hpre
        obtain ⟨nw, hnw, hnws, hnwg⟩ := hblk cur el fz hh
        refine ⟨_, _, w', rfl, hrun, ?_⟩
        have hA := After.freeze hR fr
        have hg' : get (freeze fr st.heap) id = some (.vec true e l) := by rw [freeze_get, hg]; simp [hmem]
        have hOfz : ∀ (k o : Nat), (k = (φ id).b ∧ (φ id).o + (i * (φ id).sz + off) ≤ o ∧ o < (φ id).o + (i * (φ id).sz + off) + vs.length) → ¬ FzA φ Fz st.heap w fr k := fun k o hk =>
          hA.rel.fz id _ hg' rfl k o ⟨hc0, hk.1⟩
        have hA2 := After.put (st := { st with heap := freeze fr st.heap }) (w' := w') (blk := .vec true e (l.set i x')) hA.rel hg' rfl rfl (hC.mono fun k o _ hk => ⟨hc0, hk.1⟩) (fun k o => Iff.rfl)
          ⟨by rw [hl, List.length_set], hs, by rw [List.length_set]; exact hcap, fun ad had => (by rw [haddr] at had; cases had; unfold World.shape?; rw [hnw]; rfl), fun _ => ⟨haddr, (fun h => by cases h), nw, el, fz, hnw, hel, by rw [hnws]; exact hsz, fun _ => hun, fun i' x j c hx hc => ?_⟩⟩
        · exact hG _ _ _ _ hk (After.trans hA hA2)
        · rw [hnwg, hs]
          have hjs : j < E.S.sz e := by have := (List.getElem?_eq_some_iff.1 hc).1; rw [E.S.enc_length] at this; exact this
          rw [List.getElem?_set] at hx
          by_cases hii : i = i'
          · subst hii
            rw [if_pos rfl, if_pos (by omega)] at hx
            cases hx
            obtain ⟨u, hu, ht⟩ := hrow.get hc
            refine ⟨u, ?_, ht.keep hC hOfz (fun _ h => h)⟩
            by_cases hin : off ≤ j ∧ j < off + vs.length
            · rw [if_pos (by omega), show (φ id).o + (i * E.S.sz e + j) - ((φ id).o + (i * E.S.sz e + off)) = j - off by omega]
              have hv : j - off < vs.length := by omega
              have h1 := hv1 (j - off) _ (List.getElem?_eq_getElem hv)
              rw [show off + (j - off) = j by omega, hu] at h1
              cases h1
              exact List.getElem?_eq_getElem hv
            · rw [if_neg (by omega)]
              exact hv2 j u hu hin
          · rw [if_neg hii] at hx
            obtain ⟨u, hu, ht⟩ := hcells i' x j c hx hc
            refine ⟨u, ?_, (ht.fz (fun k hk => .inl hk)).keep hC hOfz (fun _ h => h)⟩
            rw [if_neg ?_]
            · exact hu
            · rintro ⟨h1, h2⟩
              rcases Nat.lt_or_gt_of_ne hii with hlt | hlt
              · have : (i + 1) * E.S.sz e ≤ i' * E.S.sz e := Nat.mul_le_mul_right _ hlt
                rw [Nat.add_mul, Nat.one_mul] at this
                omega
              · have : (i' + 1) * E.S.sz e ≤ i * E.S.sz e := Nat.mul_le_mul_right _ hlt
                rw [Nat.add_mul, Nat.one_mul] at this
                omega
      split at h
      · next hwhole =>
        simp only [Bool.and_eq_true] at hwhole
        have e0 := beq_yes hwhole.1
        have e1 := beq_yes hwhole.2
        split at h
        · next x' fr hrow =>
          cases hm : mem id fr with
          | true => rw [hm] at h; cases h
          | false =>
            rw [hm] at h
            refine core x' fr vs (asRow_ok hR hrow hvs) hm (by omega) (fun j v hj => by rw [e0, Nat.zero_add]; exact hj) (fun j v hj hout => ?_) h
            have := (List.getElem?_eq_some_iff.1 hj).1
            omega
        · cases h
      · cases hb : Nat.ble (off + new.length) (E.S.sz e) with
        | false => rw [hb] at h; cases h
        | true =>
          rw [hb] at h
          have hb := Nat.le_of_ble_eq_true hb
          dsimp only [chk] at h
          unfold sbind at h
          split at h
          · next x0 hx0 =>
            dsimp only at h
            split at h
            · next x' fr hrow =>
              cases hm : mem id fr with
              | true => rw [hm] at h; cases h
              | false =>
                rw [hm] at h
                obtain ⟨old, ho1, ho2⟩ := all2_choose (R := CRep E.S (fun i => i < st.nx) φ Fz w) (P := fun j u => cur[(φ id).o + (i * E.S.sz e + j)]? = some u) (E.S.enc e x0) 0 (fun j c hj => by
                  obtain ⟨u, g1, g2⟩ := hcells i x0 j c hx0 hj
                  exact ⟨u, by rw [Nat.zero_add]; exact g1, g2.crep⟩)
                have hol := ho1.len
                rw [E.S.enc_length] at hol
                have hsp : All2 (CRep E.S (fun i => i < st.nx) φ Fz w) (splice (E.S.enc e x0) new off) (old.take off ++ (vs ++ old.drop (off + vs.length))) := by
                  unfold splice
                  rw [hlen]
                  exact (ho1.take off).append (hvs.append (ho1.drop _))
                have hget : ∀ j, (old.take off ++ (vs ++ old.drop (off + vs.length)))[j]? = if off ≤ j ∧ j < off + vs.length then vs[j - off]? else old[j]? := fun j => by
                  rw [← List.append_assoc]; exact splice_get old vs off j (by omega)
                refine core x' fr _ (asRow_ok hR hrow hsp) hm hb (fun j v hj => ?_) (fun j v hj hout => ?_) h
                · have hjl := (List.getElem?_eq_some_iff.1 hj).1
                  rw [hget, if_pos ⟨by omega, by omega⟩, show off + j - off = j by omega]; exact hj
                · rw [hget, if_neg hout] at hj
                  have := ho2 j v hj
                  rwa [Nat.zero_add] at this
            · cases h
          · cases h
    · next e l hg => exact wrDeep_ok hR hfull hvs hp hg h hG
    · cases h
  · cases h
/-- a slice within a tree that is read -/
theorem dSplit_ok (hR : Rel E.S (fun i => i < st.nx) φ Fz st.heap w) {p : Cell E.S.K} {pv : Value} (hp : CRep E.S (fun i => i < st.nx) φ Fz w p pv) {n : Nat} (hsp : splits E st n p = true) {k : Kn E R} {r : R} (h : dSplit E st p k = some r) {next : Value → World → Prop} (hG : Goal E.S φ Fz st w k r next) :
    ∃ b o u, pv = .pointer (some ⟨b, o, none⟩) ∧ n = 1 ∧ w.cell? ⟨b, o + 0, none⟩ = some u ∧ next u w := by
  unfold splits at hsp
  split at hsp
  case h_2 => cases hsp
  next id i off =>
  split at hsp
  case h_2 => cases hsp
  next e l hg =>
  simp only [Bool.and_eq_true] at hsp
  have hn1 := beq_yes hsp.1
  unfold dSplit at h
  dsimp only at h
  rw [hg] at h
  dsimp only at h
  unfold sbind at h
  split at h
  case h_2 => cases h
  next x hx =>
  dsimp only at h
  split at h
  case h_2 => cases h
  next e' l2 hc =>
  obtain ⟨a, cap, hcell, hA⟩ := After.split hR hg hx hc
  obtain ⟨hd, hil, rfl⟩ := hp
  have hsz := Deep.sz (hR.rep id _ hg)
  refine ⟨(φ id).b, (φ id).o + (i * (φ id).sz + off), _, rfl, hn1, by rw [Nat.add_zero, hsz]; exact hcell, hG _ _ _ _ _ _ h hA ⟨Nat.lt_succ_self _, ?_⟩⟩
  rw [upd_same]
end
end Go.Ve

namespace Go.Ve
open Go.RowKit
set_option linter.unusedVariables false
set_option linter.unusedSimpArgs false

section
variable {P : Program} {E : Env} {R : Type} {φ : Nat → Loc} {Fz : Nat → Prop} {st : St E.S.K} {w : World}

/-- a bound of the text and its value -/
def OptRep (P : Program) : Option Int → Option Value → Prop
  | none, none => True
  | some n, some v => ∃ k, v = .int k n
  | _, _ => False
theorem optInt_ok {a : Act} (hI : Inv E.S φ Fz st a.tmps w) {o : Option Operand} {x : Option Int} (h : optInt E st o = some x) : OptRep P x (o.map a.eval) := by
  unfold optInt at h
  split at h
  · cases h; trivial
  · next o =>
    split at h
    · next k n hc =>
      cases h
      have h1 : TRep _ _ _ _ _ := operandC_ok hI hc
      show ∃ k, a.eval o = .int k n
      generalize a.eval o = v at h1
      cases h1
      exact ⟨_, rfl⟩
    · cases h
theorem run_bound {k : IntKind} {i : Int} {y : Nat} {code : BoundsCode} (h0 : 0 ≤ i) (h1 : i ≤ y) : (Instr.sliceBound (.int k i) y code).run P w = .ok i.toNat w := by
  simp [Instr.sliceBound, asIntOf, h0, h1]
theorem bounds_ok {len : Nat} {lo hi : Option Int} {k : Nat → Nat → Option R} {r : R} (h : bounds len lo hi k = some r) {lov hiv : Option Value} (hlo : OptRep P lo lov) (hhi : OptRep P hi hiv) :
    ∃ a b, k a b = some r ∧ a ≤ b ∧ b ≤ len ∧ ∀ (isSlice : Bool) (cap : Nat), len ≤ cap → (isSlice = false → cap = len) → (Instr.sliceBounds isSlice len cap lov hiv none).run P w = .ok (a, b, cap) w := by
  unfold bounds at h
  split at h
  · cases lov <;> cases hiv <;> simp only [OptRep] at hlo hhi
    exact ⟨0, len, h, Nat.zero_le _, Nat.le_refl _, fun s cap hc _ => by simp [Instr.sliceBounds]⟩
  · next l =>
    unfold sif at h
    split at h
    · next hb =>
      simp only [le3, Bool.and_eq_true, decide_eq_true_eq] at hb
      cases lov <;> cases hiv <;> simp only [OptRep] at hlo hhi
      obtain ⟨kd, rfl⟩ := hlo
      refine ⟨l.toNat, len, h, by omega, Nat.le_refl _, fun s cap hc _ => ?_⟩
      simp [Instr.sliceBounds, run_bound hb.1 hb.2]
    · cases h
  · next x =>
    unfold sif at h
    split at h
    · next hb =>
      simp only [le3, Bool.and_eq_true, decide_eq_true_eq] at hb
      cases lov <;> cases hiv <;> simp only [OptRep] at hlo hhi
      obtain ⟨kd, rfl⟩ := hhi
      refine ⟨0, x.toNat, h, Nat.zero_le _, by omega, fun s cap hc hs => ?_⟩
      have : x ≤ (cap : Int) := by omega
      simp [Instr.sliceBounds, run_bound hb.1 this]
    · cases h
  · next l x =>
    unfold sif at h
    split at h
    · next hb =>
      split at h
      · next hb2 =>
        simp only [le3, Bool.and_eq_true, decide_eq_true_eq] at hb hb2
        cases lov <;> cases hiv <;> simp only [OptRep] at hlo hhi
        obtain ⟨kd, rfl⟩ := hhi
        obtain ⟨kd', rfl⟩ := hlo
        refine ⟨l.toNat, x.toNat, h, by omega, by omega, fun s cap hc hs => ?_⟩
        have h1 : x ≤ (cap : Int) := by omega
        have h2 : l ≤ (x.toNat : Int) := by omega
        simp [Instr.sliceBounds, run_bound hb.1 h1, run_bound hb2.1 h2]
      · cases h
    · cases h

theorem add_add (a : Addr) (x y : Nat) : (a.add x).add y = a.add (x + y) := by
  unfold Addr.add
  by_cases hx : x = 0
  · subst hx; simp
  · by_cases hy : y = 0
    · subst hy; simp [hx]
    · simp [hx, hy, Nat.add_assoc]

theorem arr_sub {e : Nat} {l : List (E.S.K e)} {ad : Option Addr} {n cap : Nat} (h : TRep E.S Fz w (.arr e l) (.slice ad n cap)) {a b : Nat} (hab : a ≤ b) (hb : b ≤ l.length) :
    TRep E.S Fz w (.arr e ((l.take b).drop a)) (.slice (if cap = a then ad else ad.map (·.add (a * E.S.sz e))) (b - a) (cap - a)) := by
  cases h with
  | arr _ _ _ _ vals hcap hn hf hv ht =>
    have hlen := drop_take_len l a b hb
    by_cases hca : cap = a
    · have : (l.take b).drop a = [] := List.eq_nil_of_length_eq_zero (by omega)
      rw [if_pos hca, this, show b - a = ([] : List (E.S.K e)).length by simp; omega]
      exact .arr e [] _ _ (fun _ _ => undef) (by simp) (fun _ => rfl) (fun _ _ h => absurd rfl h) (fun i x j c hx => by simp at hx) (fun i x j c hx => by simp at hx)
    · rw [if_neg hca, ← hlen]
      refine .arr e _ _ _ (fun i j => vals (a + i) j) (by omega) (fun h => ?_) (fun ad' h hl => ?_) (fun i x j c hx hc ad' h => ?_) (fun i x j c hx hc => ?_)
      · cases ad with
        | none => have := hn rfl; subst this; simp
        | some _ => cases h
      · cases ad with
        | none => cases h
        | some a0 =>
          simp only [Option.map_some, Option.some.injEq] at h
          subst h
          have hl0 : l ≠ [] := by rintro rfl; simp at hl
          obtain ⟨h1, h2⟩ := hf a0 rfl hl0
          unfold Addr.add
          split <;> simp [h1, h2]
      · obtain ⟨hx', _⟩ := drop_take_get l a b i x hx
        cases ad with
        | none => cases h
        | some a0 =>
          simp only [Option.map_some, Option.some.injEq] at h
          subst h
          have := hv (a + i) x j c hx' hc a0 rfl
          have e1 : (a0.add (a * E.S.sz e)).block = a0.block := by unfold Addr.add; split <;> rfl
          have e2 : (a0.add (a * E.S.sz e)).off = a0.off + a * E.S.sz e := by
            unfold Addr.add
            split
            · next h => rw [h]; rfl
            · rfl
          rw [e1, e2, ← this]
          congr 2
          rw [Nat.add_mul]; omega
      · obtain ⟨hx', _⟩ := drop_take_get l a b i x hx
        exact ht (a + i) x j c hx' hc

theorem run_sliceAt {t e : TypeId} {i : TypeInfo} (ht : P.underlying t = some (.slice e)) (hi : P.info? e = some i) {ad : Option Addr} {len cap : Nat} {lov hiv : Option Value} {a b : Nat} (hb : (Instr.sliceBounds true len cap lov hiv none).run P w = .ok (a, b, cap) w) :
    (Instr.sliceAt t (.slice ad len cap) lov hiv none).run P w = .ok (.slice (if cap = a then ad else ad.map (·.add (a * i.size))) (b - a) (cap - a)) w := by
  simp [Instr.sliceAt, Instr.slice, run_underlying ht, hb, sizeOf, typeInfo, hi]

theorem slice_block {a q : Option Addr} {n m k : Nat} (h : ∀ ad, a = some ad → ∃ ad0, q = some ad0 ∧ ad.block = ad0.block) : ∀ ad, (if n = m then a else a.map (·.add k)) = some ad → ∃ ad0, q = some ad0 ∧ ad.block = ad0.block := by
  intro ad had
  split at had
  · exact h ad had
  · cases a with
    | none => cases had
    | some x => cases had; obtain ⟨ad0, h1, h2⟩ := h x rfl; exact ⟨ad0, h1, by unfold Addr.add; split <;> exact h2⟩
theorem dSlice_ok (hE : EnvOk P E) (hR : Rel E.S (fun i => i < st.nx) φ Fz st.heap w) {t : TypeId} {x : Cell E.S.K} {v : Value} (hv : CRep E.S (fun i => i < st.nx) φ Fz w x v) {lo hi : Option Int} {lov hiv : Option Value} (hlo : OptRep P lo lov) (hhi : OptRep P hi hiv)
    {k : Cell E.S.K → Option R} {r : R} (h : dSlice E st t x lo hi k = some r) : ∃ c u, k c = some r ∧ (Instr.sliceAt t v lov hiv none).run P w = .ok u w ∧ CRep E.S (fun i => i < st.nx) φ Fz w c u := by
  unfold dSlice at h
  split at h
  · next s =>
    cases hk : isStr (kindOf E t) with
    | false => rw [hk] at h; cases h
    | true =>
      rw [hk] at h
      have hu : P.underlying t = some .string := by
        cases hkk : kindOf E t <;> rw [hkk] at hk <;> simp [isStr] at hk
        obtain ⟨d, h1, h2⟩ := hE.kind hkk (by simp); rw [h1]; exact congrArg some h2
      obtain ⟨a, b, hkr, hab, hb, hrun⟩ := bounds_ok (P := P) (w := w) h hlo hhi
      cases hv
      refine ⟨_, _, hkr, ?_, TRep.str _⟩
      simp [Instr.sliceAt, Instr.slice, run_underlying hu, hrun false s.size (Nat.le_refl _) (fun _ => rfl)]
  · split at h
    · next e hs =>
      obtain ⟨hund, i, z, ed, _, hi, hsize, _, _, _, _, _, _, hsz⟩ := hE.sliceOf hs
      split at h
      · have hv' : v = .slice none 0 0 := hv
        subst hv'
        obtain ⟨a, b, hkr, hab, hb, hrun⟩ := bounds_ok (P := P) (w := w) h hlo hhi
        have ea : a = 0 := by omega
        have eb : b = 0 := by omega
        subst ea eb
        refine ⟨.nils, .slice none 0 0, hkr, ?_, rfl⟩
        rw [run_sliceAt hund hi (hrun true 0 (Nat.le_refl _) (fun h => by cases h))]; simp
      · next e' l _ =>
        cases hb : Nat.beq e' e with
        | false => rw [hb] at h; cases h
        | true =>
          rw [hb] at h
          have := beq_yes hb
          subst this
          obtain ⟨a, b, hkr, hab, hbl, hrun⟩ := bounds_ok (P := P) (w := w) h hlo hhi
          have hv' : TRep E.S Fz w (.arr e' l) v := hv
          have hsub := fun (h' : TRep E.S Fz w (.arr e' l) v) => h'
          cases hv' with
          | arr _ _ ad cap vals h1 h2 h3 h4 h5 =>
            refine ⟨_, _, hkr, run_sliceAt hund hi (hrun true cap h1 (fun h => by cases h)), ?_⟩
            rw [hsize]
            exact arr_sub (.arr e' l ad cap vals h1 h2 h3 h4 h5) hab hbl
      · next id _ =>
        split at h
        · next own e' l hg =>
          cases hb : Nat.beq e' e with
          | false => rw [hb] at h; cases h
          | true =>
            rw [hb] at h
            have := beq_yes hb
            subst this
            obtain ⟨a, b, hkr, hab, hbl, hrun⟩ := bounds_ok (P := P) (w := w) h hlo hhi
            obtain ⟨hd, rfl⟩ := hv
            have hB := hR.rep _ _ hg
            have hl := hB.1
            rw [← hl] at hrun
            refine ⟨_, _, hkr, run_sliceAt hund hi (hrun true (φ id).cap (by have := hB.2.2.1; omega) (fun h => by cases h)), hd, hab, by omega, by have := hB.2.2.1; omega, _, rfl, fun hne => ?_, slice_block (fun ad h => ⟨ad, h, rfl⟩)⟩
            rw [if_neg hne, hsize, hB.2.1]
        · cases h
      · next id a0 b0 _ =>
        split at h
        · next own e' l hg =>
          cases hb : Nat.beq e' e with
          | false => rw [hb] at h; cases h
          | true =>
            rw [hb] at h
            have := beq_yes hb
            subst this
            obtain ⟨a, b, hkr, hab, hbl, hrun⟩ := bounds_ok (P := P) (w := w) h hlo hhi
            obtain ⟨hd, h1, h2, h3, ad, rfl, had⟩ := hv
            have hB := hR.rep _ _ hg
            refine ⟨_, _, hkr, run_sliceAt hund hi (hrun true ((φ id).cap - a0) (by omega) (fun h => by cases h)), hd, by omega, by omega, h3, _, by rw [show a0 + b - (a0 + a) = b - a by omega, show (φ id).cap - (a0 + a) = (φ id).cap - a0 - a by omega], fun hne => ?_, slice_block had.2⟩
            rw [if_neg (by omega), had.1 (by omega), hsize, hB.2.1, Option.map_map]
            congr 1
            funext z
            simp only [Function.comp]
            rw [add_add, ← Nat.add_mul]
        · cases h
      · cases h
    · cases h

/-! ### indexing -/
theorem run_indexAt {t e : TypeId} {i : TypeInfo} (ht : P.underlying t = some (.slice e)) (hi : P.info? e = some i) {ad : Addr} {len cap : Nat} {k : IntKind} {n : Int} (h0 : 0 ≤ n) (h1 : n < len) :
    (Instr.indexAt t (.slice (some ad) len cap) (.int k n)).run P w = .ok (.pointer (some (ad.add (n.toNat * i.size)))) w := by
  simp [Instr.indexAt, run_underlying ht, asIntOf, h0, h1, sizeOf, typeInfo, hi]

theorem dIndexAddr_ok (hE : EnvOk P E) (hR : Rel E.S (fun i => i < st.nx) φ Fz st.heap w) {t : TypeId} {x : Cell E.S.K} {v : Value} (hv : CRep E.S (fun i => i < st.nx) φ Fz w x v) {n : Int} {kd : IntKind}
    {k : Cell E.S.K → Option R} {r : R} (h : dIndexAddr E st t x n k = some r) : ∃ c u, k c = some r ∧ (Instr.indexAt t v (.int kd n)).run P w = .ok u w ∧ CRep E.S (fun i => i < st.nx) φ Fz w c u := by
  unfold dIndexAddr at h
  split at h
  · next e hs =>
    obtain ⟨hund, i, z, ed, _, hi, hsize, _, _, _, _, _, _, hsz⟩ := hE.sliceOf hs
    split at h
    · next e' l =>
      cases hb : Nat.beq e' e with
      | false => rw [hb] at h; cases h
      | true =>
        rw [hb] at h
        have := beq_yes hb
        subst this
        dsimp only [chk] at h
        unfold sbind at h
        split at h
        · next x0 hx =>
          unfold idx at hx
          split at hx
          · next h0 =>
            have hlt := (List.getElem?_eq_some_iff.1 hx).1
            have hv' : TRep E.S Fz w (.arr e' l) v := hv
            cases hv' with
            | arr _ _ ad cap vals h1 h2 h3 h4 h5 =>
              cases ad with
              | none => have := h2 rfl; subst this; simp at hx
              | some a0 =>
                have hl : l ≠ [] := by rintro rfl; simp at hx
                obtain ⟨hsp, hfz⟩ := h3 a0 rfl hl
                refine ⟨_, _, h, run_indexAt hund hi h0 (by omega), a0.block, a0.off + n.toNat * E.S.sz e', ?_, hfz, fun j c hj => ?_⟩
                · have : a0 = ⟨a0.block, a0.off, none⟩ := by cases a0; simp at hsp ⊢; exact hsp
                  rw [this, add_lit, hsize]; rfl
                · exact ⟨_, by have := h4 _ x0 j c hx hj a0 rfl; rw [Nat.add_assoc]; exact this, h5 _ x0 j c hx hj⟩
          · cases hx
        · cases h
    · next id =>
      split at h
      · next own e' l hg =>
        cases hb : Nat.beq e' e with
        | false => rw [hb] at h; cases h
        | true =>
          rw [hb] at h
          have := beq_yes hb
          subst this
          dsimp only [chk] at h
          unfold sif at h
          split at h
          · next hin =>
            simp only [lt3, Bool.and_eq_true, decide_eq_true_eq] at hin
            obtain ⟨hd, rfl⟩ := hv
            have hB := hR.rep _ _ hg
            obtain ⟨hl, hs', hcap, _, hr⟩ := hB
            have hne0 : (φ id).cap ≠ 0 := by clear hr; omega
            have hlt : n.toNat < (φ id).len := by clear hr; omega
            have hlt2 : n < ((φ id).len : Int) := by clear hr; omega
            have ha := (hr hne0).1
            refine ⟨_, .pointer (some ((⟨(φ id).b, (φ id).o, none⟩ : Addr).add (n.toNat * i.size))), h, by rw [ha]; exact run_indexAt hund hi hin.1 hlt2, hd, hlt, ?_⟩
            rw [add_lit, hsize, ← hs']
            simp [ptrV]
          · cases h
      · next e' l hh hg =>
        cases hb : Nat.beq e' e with
        | false => rw [hb] at h; cases h
        | true =>
          rw [hb] at h
          have := beq_yes hb
          subst this
          dsimp only [chk] at h
          unfold sif at h
          split at h
          · next hin =>
            simp only [lt3, Bool.and_eq_true, decide_eq_true_eq] at hin
            obtain ⟨hd, rfl⟩ := hv
            have hB : Deep E.S (fun i => i < st.nx) φ w (φ id) e' l hh := hR.rep _ _ hg
            have hl := hB.len
            have hcap := hB.cap
            have hne0 : (φ id).cap ≠ 0 := by omega
            have hlt : n.toNat < (φ id).len := by omega
            have hlt2 : n < ((φ id).len : Int) := by omega
            have ha := (hB.mine hne0).1
            refine ⟨_, .pointer (some ((⟨(φ id).b, (φ id).o, none⟩ : Addr).add (n.toNat * i.size))), h, by rw [ha]; exact run_indexAt hund hi hin.1 hlt2, hd, hlt, ?_⟩
            rw [add_lit, hsize, ← hB.sz]
            simp [ptrV]
          · cases h
      · cases h
    · next id lo hi' =>
      split at h
      · next own e' l hg =>
        cases hb : Nat.beq e' e with
        | false => rw [hb] at h; cases h
        | true =>
          rw [hb] at h
          have := beq_yes hb
          subst this
          dsimp only [chk] at h
          unfold sif at h
          split at h
          · next hin =>
            simp only [lt3, Bool.and_eq_true, decide_eq_true_eq] at hin
            obtain ⟨hd, h1, h2, h3, ad, rfl, had⟩ := hv
            have hne : (φ id).cap ≠ lo := by clear had; omega
            have hne0 : (φ id).cap ≠ 0 := by clear had; omega
            have hlt : lo + n.toNat < (φ id).len := by clear had; omega
            have hlt2 : n < ((hi' - lo : Nat) : Int) := hin.2
            have hB := hR.rep _ _ hg
            obtain ⟨hl, hs', hcap, _, hr⟩ := hB
            have ha := (hr hne0).1
            have had' := had.1 hne
            rw [ha, Option.map_some, add_lit] at had'
            refine ⟨_, .pointer (some ((⟨(φ id).b, (φ id).o + lo * (φ id).sz, none⟩ : Addr).add (n.toNat * i.size))), h, by rw [had']; exact run_indexAt hund hi hin.1 hlt2, hd, hlt, ?_⟩
            rw [add_lit, hsize, ← hs']
            simp only [ptrV, Nat.add_zero, Nat.add_mul, Nat.add_assoc]
          · cases h
      · cases h
    · cases h
  · cases h

theorem dLen_ok (hE : EnvOk P E) (hR : Rel E.S (fun i => i < st.nx) φ Fz st.heap w) {t : TypeId} {ts : Array TypeId} (hts : ts[0]? = some t) {ty : TypeId} {x : Cell E.S.K} {v : Value} (hv : CRep E.S (fun i => i < st.nx) φ Fz w x v)
    {k : Cell E.S.K → Option R} {r : R} (h : dLen E st (kindOf E t) x k = some r) : ∃ c u, k c = some r ∧ (Builtin.len_ ts ty #[v]).run P w = .ok u w ∧ CRep E.S (fun i => i < st.nx) φ Fz w c u := by
  have hstr : isStr (kindOf E t) = true → P.underlying t = some .string := fun hk => by
    cases hkk : kindOf E t <;> rw [hkk] at hk <;> simp [isStr] at hk
    obtain ⟨d, h1, h2⟩ := hE.kind hkk (by simp); rw [h1]; exact congrArg some h2
  have hsl : isSlice (kindOf E t) = true → ∃ e, P.underlying t = some (.slice e) := fun hk => by
    cases hkk : kindOf E t <;> rw [hkk] at hk <;> simp [isSlice] at hk
    obtain ⟨d, h1, h2⟩ := hE.kind hkk (by simp); exact ⟨_, by rw [h1]; exact congrArg some h2⟩
  have run_sl : isSlice (kindOf E t) = true → ∀ (a : Option Addr) (n c : Nat), (Builtin.len_ ts ty #[.slice a n c]).run P w = .ok (.int .i64 n) w := fun hk a n c => by
    obtain ⟨e, hu⟩ := hsl hk
    simp [Builtin.len_, hts, run_underlying hu, goInt]
  unfold dLen at h
  split at h
  · cases hk : isStr (kindOf E t) with
    | false => rw [hk] at h; cases h
    | true =>
      rw [hk] at h
      cases hv
      exact ⟨_, _, h, by simp [Builtin.len_, hts, run_underlying (hstr hk), goInt], TRep.int _ _⟩
  · next e l =>
    cases hk : isSlice (kindOf E t) with
    | false => rw [hk] at h; cases h
    | true =>
      rw [hk] at h
      have hv' : TRep E.S Fz w (.arr e l) v := hv
      cases hv'
      exact ⟨_, _, h, run_sl hk _ _ _, TRep.int _ _⟩
  · split at h
    · next own e l hg =>
      cases hk : isSlice (kindOf E t) with
      | false => rw [hk] at h; cases h
      | true =>
        rw [hk] at h
        obtain ⟨_, rfl⟩ := hv
        exact ⟨_, _, h, run_sl hk _ _ _, by rw [(hR.rep _ _ hg).1]; exact TRep.int _ _⟩
    · next e l hh hg =>
      cases hk : isSlice (kindOf E t) with
      | false => rw [hk] at h; cases h
      | true =>
        rw [hk] at h
        obtain ⟨_, rfl⟩ := hv
        exact ⟨_, _, h, run_sl hk _ _ _, by rw [Deep.len (hR.rep _ _ hg)]; exact TRep.int _ _⟩
    · cases h
  · cases hk : isSlice (kindOf E t) with
    | false => rw [hk] at h; cases h
    | true =>
      rw [hk] at h
      obtain ⟨_, _, _, _, a, rfl, _⟩ := hv
      exact ⟨_, _, h, run_sl hk _ _ _, TRep.int _ _⟩
  · cases hk : isSlice (kindOf E t) with
    | false => rw [hk] at h; cases h
    | true =>
      rw [hk] at h
      have hv' : v = .slice none 0 0 := hv
      subst hv'
      exact ⟨_, _, h, run_sl hk _ _ _, TRep.int _ _⟩
  · cases h

/-! ### arithmetic -/
theorem crep_int {D : Nat → Prop} {k : IntKind} {n : Int} {v : Value} (h : CRep E.S D φ Fz w (.int k n) v) : v = .int k n := by cases h; rfl
theorem crep_bool {D : Nat → Prop} {b : Bool} {v : Value} (h : CRep E.S D φ Fz w (.bool b) v) : v = .bool b := by cases h; rfl
theorem crep_lit {D : Nat → Prop} {b : Bool} {v : Value} (h : CRep E.S D φ Fz w (.lit b) v) : v = .bool b := by cases h; rfl
theorem crep_str {D : Nat → Prop} {s : ByteArray} {v : Value} (h : CRep E.S D φ Fz w (.str s) v) : v = .string s := by cases h; rfl
theorem crep_boolOf {D : Nat → Prop} {c : Cell E.S.K} {b : Bool} (h : boolOf c = some b) {v : Value} (hv : CRep E.S D φ Fz w c v) : v = .bool b := by
  cases c <;> simp [boolOf] at h <;> subst h
  · exact crep_bool hv
  · exact crep_lit hv
theorem litOf_ok {a : Act} {o : Operand} {n : Int} (h : litOf o = some n) {k : IntKind} {b : Int} (hv : a.eval o = .int k b) : b = n := by
  unfold litOf at h
  split at h
  · cases h; simp [Act.eval] at hv; exact hv.2.symm
  · cases h

theorem eqGuard_pure {op : BinOp} {t : TypeId} {x y : Operand} {a b : Value} (ha : ∀ cs, a ≠ .agg cs) (hn : a ≠ .nilIface) : (eqGuard op t x y a b).run P w = .ok () w := by
  unfold eqGuard
  cases op <;> simp <;> (cases a <;> cases b <;> simp at * )
theorem crep_noagg {D : Nat → Prop} {c : Cell E.S.K} {v : Value} (h : CRep E.S D φ Fz w c v) (hc : c ≠ .undef) : (∀ cs, v ≠ .agg cs) ∧ v ≠ .nilIface := by
  cases c with
  | undef => exact absurd rfl hc
  | int | bool | lit | str | arr => (have h' : TRep _ _ _ _ _ := h; cases h' <;> exact ⟨fun _ h => (by cases h), fun h => (by cases h)⟩)
  | vec id => rw [h.2]; exact ⟨fun _ h => (by cases h), fun h => (by cases h)⟩
  | sub id lo hi => obtain ⟨_, _, _, _, _, rfl, _⟩ := h; exact ⟨fun _ h => (by cases h), fun h => (by cases h)⟩
  | ptr id off => rw [h.2]; exact ⟨fun _ h => (by cases h), fun h => (by cases h)⟩
  | elt id i off => rw [h.2.2]; exact ⟨fun _ h => (by cases h), fun h => (by cases h)⟩
  | tpt e x off => obtain ⟨_, _, rfl, _⟩ := h; exact ⟨fun _ h => (by cases h), fun h => (by cases h)⟩
  | nils => rw [show v = _ from h]; exact ⟨fun _ h => (by cases h), fun h => (by cases h)⟩
  | nilp => rw [show v = _ from h]; exact ⟨fun _ h => (by cases h), fun h => (by cases h)⟩
  | nofn => rw [show v = _ from h]; exact ⟨fun _ h => (by cases h), fun h => (by cases h)⟩
  | fn f caps => rw [h.2]; exact ⟨fun _ h => (by cases h), fun h => (by cases h)⟩
  | self id => rcases h.2.2 with h | h <;> rw [h] <;> exact ⟨fun _ h => (by cases h), fun h => (by cases h)⟩
end
end Go.Ve

namespace Go.Ve
open Go.RowKit
set_option linter.unusedVariables false
set_option linter.unusedSimpArgs false

section
variable {P : Program} {E : Env} {R : Type} {φ : Nat → Loc} {Fz : Nat → Prop} {st : St E.S.K} {w : World}

theorem run_bin {op : BinOp} {t : TypeId} {x0 y0 : Operand} {a b u : Value} (ha : ∀ cs, a ≠ .agg cs) (hn : a ≠ .nilIface) (h : (binOp op t a b).run P w = .ok u w) : ((do eqGuard op t x0 y0 a b; binOp op t a b) : Sem Value).run P w = .ok u w := by
  simp [Sem.run_bind, eqGuard_pure ha hn, h]

theorem kind_of {tk : TK} (hE : EnvOk P E) {t : TypeId} (h : kindOf E t = tk) : (∀ e, tk = .ptr e → P.underlying t = some (.pointer e)) ∧ (tk = .func → ∃ a b c, P.underlying t = some (.func a b c)) ∧ (∀ e, tk = .slice e → P.underlying t = some (.slice e)) ∧ (tk = .bool → P.underlying t = some .bool) := by
  refine ⟨fun e he => ?_, fun he => ?_, fun e he => ?_, fun he => ?_⟩ <;> subst he <;> obtain ⟨d, h1, h2⟩ := hE.kind h (by simp)
  · rw [h1]; exact congrArg some h2
  · obtain ⟨a, b, c, h2⟩ := h2; exact ⟨a, b, c, by rw [h1]; exact congrArg some h2⟩
  · rw [h1]; exact congrArg some h2
  · rw [h1]; exact congrArg some h2

theorem equal_step (t : TypeId) (x y : Value) : Op.equal t x y = Op.equalIn (9999 + 1) t x y := rfl
theorem eq_ptr {t e : TypeId} (hu : P.underlying t = some (.pointer e)) (d : Nat) : (Op.equalIn (d + 1) t (.pointer none) (.pointer none)).run P w = .ok true w ∧ ∀ a, (Op.equalIn (d + 1) t (.pointer none) (.pointer (some a))).run P w = .ok false w ∧ (Op.equalIn (d + 1) t (.pointer (some a)) (.pointer none)).run P w = .ok false w := by
  refine ⟨?_, fun a => ⟨?_, ?_⟩⟩ <;> simp [Op.equalIn, run_underlying hu]
theorem eq_fn {t : TypeId} {a : Array TypeId} {b : Array TypeId} {c : Bool} (hu : P.underlying t = some (.func a b c)) (d : Nat) : (Op.equalIn (d + 1) t .nilFunc .nilFunc).run P w = .ok true w ∧ ∀ f x y, (Op.equalIn (d + 1) t .nilFunc (.func f x y)).run P w = .ok false w ∧ (Op.equalIn (d + 1) t (.func f x y) .nilFunc).run P w = .ok false w := by
  refine ⟨?_, fun f x y => ⟨?_, ?_⟩⟩ <;> simp [Op.equalIn, run_underlying hu]
theorem eq_sl {t e : TypeId} (hu : P.underlying t = some (.slice e)) (d : Nat) : (Op.equalIn (d + 1) t (.slice none 0 0) (.slice none 0 0)).run P w = .ok true w := by
  simp [Op.equalIn, run_underlying hu]
theorem eq_bl {t : TypeId} (hu : P.underlying t = some .bool) (d : Nat) (a b : Bool) : (Op.equalIn (d + 1) t (.bool a) (.bool b)).run P w = .ok (a == b) w := by
  simp [Op.equalIn, run_underlying hu]
theorem eqNil_ok (hE : EnvOk P E) {t : TypeId} {D : Nat → Prop} {x y : Cell E.S.K} {b : Bool} (h : eqNil (kindOf E t) x y = some b) {vx vy : Value} (hx : CRep E.S D φ Fz w x vx) (hy : CRep E.S D φ Fz w y vy) : (Op.equal t vx vy).run P w = .ok b w := by
  generalize hk : kindOf E t = tk at h
  obtain ⟨k1, k2, k3, k4⟩ := kind_of hE hk
  rw [equal_step]
  unfold eqNil at h
  split at h <;> cases h
  · next e => rw [show vx = _ from hx, show vy = _ from hy]; exact (eq_ptr (k1 e rfl) _).1
  · obtain ⟨a, b, c, hu⟩ := k2 rfl; rw [show vx = _ from hx, show vy = _ from hy]; exact (eq_fn hu _).1
  · next e => rw [show vx = _ from hx, show vy = _ from hy]; exact eq_sl (k3 e rfl) _
  · next e _ _ => rw [show vx = _ from hx, hy.2]; exact ((eq_ptr (k1 e rfl) _).2 _).1
  · next e _ _ _ => rw [show vx = _ from hx, hy.2.2]; exact ((eq_ptr (k1 e rfl) _).2 _).1
  · next e _ _ _ => obtain ⟨_, _, rfl, _⟩ := hy; rw [show vx = _ from hx]; exact ((eq_ptr (k1 e rfl) _).2 _).1
  · next e _ _ => rw [show vy = _ from hy, hx.2]; exact ((eq_ptr (k1 e rfl) _).2 _).2
  · next e _ _ _ => rw [show vy = _ from hy, hx.2.2]; exact ((eq_ptr (k1 e rfl) _).2 _).2
  · next e _ _ _ => obtain ⟨_, _, rfl, _⟩ := hx; rw [show vy = _ from hy]; exact ((eq_ptr (k1 e rfl) _).2 _).2
  · obtain ⟨a, b, c, hu⟩ := k2 rfl; rw [show vx = _ from hx, hy.2]; exact ((eq_fn hu _).2 _ _ _).1
  · obtain ⟨a, b, c, hu⟩ := k2 rfl; rw [show vy = _ from hy, hx.2]; exact ((eq_fn hu _).2 _ _ _).2
theorem eqNil_val {D : Nat → Prop} {tk : TK} {x y : Cell E.S.K} {b : Bool} (h : eqNil tk x y = some b) {vx : Value} (hx : CRep E.S D φ Fz w x vx) : (∃ a, vx = .pointer a) ∨ vx = .nilFunc ∨ (∃ f a b, vx = .func f a b) ∨ ∃ a n c, vx = .slice a n c := by
  unfold eqNil at h
  split at h <;> first
    | (cases h; done)
    | exact .inl ⟨_, hx⟩
    | exact .inl ⟨_, hx.2⟩
    | exact .inl ⟨_, hx.2.2⟩
    | (obtain ⟨_, _, rfl, _⟩ := hx; exact .inl ⟨_, rfl⟩)
    | exact .inr (.inl hx)
    | exact .inr (.inr (.inl ⟨_, _, _, hx.2⟩))
    | exact .inr (.inr (.inr ⟨_, _, _, hx⟩))
theorem run_eq {t : TypeId} {a b : Value} {r : Bool} (hv : (∃ p, a = .pointer p) ∨ a = .nilFunc ∨ (∃ f x y, a = .func f x y) ∨ (∃ p n c, a = .slice p n c) ∨ ∃ x, a = .bool x) (h : (Op.equal t a b).run P w = .ok r w) :
    (binOp .eql t a b).run P w = .ok (.bool r) w ∧ (binOp .neq t a b).run P w = .ok (.bool (!r)) w := by
  have e1 : binOp .eql t a b = (do pure (.bool (← Op.equal t a b))) := by
    rcases hv with ⟨p, rfl⟩ | rfl | ⟨f, x, y, rfl⟩ | ⟨p, n, c, rfl⟩ | ⟨x, rfl⟩ <;> cases b <;> rfl
  have e2 : binOp .neq t a b = (do pure (.bool (!(← Op.equal t a b)))) := by
    rcases hv with ⟨p, rfl⟩ | rfl | ⟨f, x, y, rfl⟩ | ⟨p, n, c, rfl⟩ | ⟨x, rfl⟩ <;> cases b <;> rfl
  rw [e1, e2]
  simp [h]

theorem eqNil_cells {tk : TK} {x y : Cell E.S.K} {b : Bool} (h : eqNil tk x y = some b) : x ≠ .undef ∧ y ≠ .undef := by
  unfold eqNil at h
  split at h <;> first | (cases h; exact ⟨fun h => (by cases h), fun h => (by cases h)⟩) | (cases h)

theorem run_shift {op : BinOp} {k yk : IntKind} {a b : Int} (h0 : ¬ b < 0) : (op = .shl → (Op.shift op k a yk b).run P w = .ok (.int k (k.wrap (a * 2 ^ min b.toNat k.bits))) w) ∧ (op = .shr → (Op.shift op k a yk b).run P w = .ok (.int k (a.fdiv (2 ^ min b.toNat k.bits))) w) := by
  constructor <;> rintro rfl <;> simp [Op.shift, h0]

set_option maxHeartbeats 1000000 in
theorem binCells_ok (hE : EnvOk P E) {a : Act} {t : TypeId} {op : BinOp} {x0 y0 : Operand} {D : Nat → Prop} {x y : Cell E.S.K} (hx : CRep E.S D φ Fz w x (a.eval x0)) (hy : CRep E.S D φ Fz w y (a.eval y0)) {k : Cell E.S.K → Option R} {r : R}
    (h : binCells op (kindOf E t) y0 x y k = some r) : ∃ c u, k c = some r ∧ ((do eqGuard op t x0 y0 (a.eval x0) (a.eval y0); binOp op t (a.eval x0) (a.eval y0)) : Sem Value).run P w = .ok u w ∧ CRep E.S D φ Fz w c u := by
  unfold binCells at h
  split at h
  · next i n i' m =>
    have e1 := crep_int hx
    have e2 := crep_int hy
    have key : ¬ m < 0 → k (.int i (i.wrap (n * 2 ^ min m.toNat i.bits))) = some r → ∃ c u, k c = some r ∧ ((do eqGuard .shl t x0 y0 (a.eval x0) (a.eval y0); binOp .shl t (a.eval x0) (a.eval y0)) : Sem Value).run P w = .ok u w ∧ CRep E.S D φ Fz w c u := fun h0 hk => by
      refine ⟨_, _, hk, run_bin (by rw [e1]; simp) (by rw [e1]; simp) ?_, TRep.int _ _⟩
      rw [e1, e2]; exact (run_shift (yk := i') h0).1 rfl
    split at h
    · next q hq =>
      have hm := litOf_ok hq e2
      cases hc : (!decide (q < 0)) with
      | false => rw [hc] at h; cases h
      | true => rw [hc] at h; exact key (by rw [hm]; simpa using hc) h
    · unfold sif at h
      split at h
      · cases h
      · next hc => exact key (by simpa using hc) h
  · next i n i' m =>
    have e1 := crep_int hx
    have e2 := crep_int hy
    have key : ¬ m < 0 → k (.int i (n.fdiv (2 ^ min m.toNat i.bits))) = some r → ∃ c u, k c = some r ∧ ((do eqGuard .shr t x0 y0 (a.eval x0) (a.eval y0); binOp .shr t (a.eval x0) (a.eval y0)) : Sem Value).run P w = .ok u w ∧ CRep E.S D φ Fz w c u := fun h0 hk => by
      refine ⟨_, _, hk, run_bin (by rw [e1]; simp) (by rw [e1]; simp) ?_, TRep.int _ _⟩
      rw [e1, e2]; exact (run_shift (yk := i') h0).2 rfl
    split at h
    · next q hq =>
      have hm := litOf_ok hq e2
      cases hc : (!decide (q < 0)) with
      | false => rw [hc] at h; cases h
      | true => rw [hc] at h; exact key (by rw [hm]; simpa using hc) h
    · unfold sif at h
      split at h
      · cases h
      · next hc => exact key (by simpa using hc) h
  · next i n i' m =>
    have e1 := crep_int hx
    have e2 := crep_int hy
    cases hb : beqKind i i' with
    | false => rw [hb] at h; cases h
    | true =>
      rw [hb] at h
      have := beqKind_eq hb
      subst this
      have key : ¬ m = 0 → k (.int i (i.wrap (n.tdiv m))) = some r → ∃ c u, k c = some r ∧ ((do eqGuard .quo t x0 y0 (a.eval x0) (a.eval y0); binOp .quo t (a.eval x0) (a.eval y0)) : Sem Value).run P w = .ok u w ∧ CRep E.S D φ Fz w c u := fun h0 hk => by
        refine ⟨_, _, hk, run_bin (by rw [e1]; simp) (by rw [e1]; simp) ?_, TRep.int _ _⟩
        rw [e1, e2]; simp [binOp, Op.intDiv, h0]
      dsimp only [chk] at h
      split at h
      · next q hq =>
        have hm := litOf_ok hq e2
        cases hc : (!decide (q = 0)) with
        | false => rw [hc] at h; cases h
        | true => rw [hc] at h; exact key (by rw [hm]; simpa using hc) h
      · unfold sif at h
        split at h
        · cases h
        · next hc => exact key (by simpa using hc) h
  · next i n i' m =>
    have e1 := crep_int hx
    have e2 := crep_int hy
    cases hb : beqKind i i' with
    | false => rw [hb] at h; cases h
    | true =>
      rw [hb] at h
      have := beqKind_eq hb
      subst this
      have key : ¬ m = 0 → k (.int i (n.tmod m)) = some r → ∃ c u, k c = some r ∧ ((do eqGuard .rem t x0 y0 (a.eval x0) (a.eval y0); binOp .rem t (a.eval x0) (a.eval y0)) : Sem Value).run P w = .ok u w ∧ CRep E.S D φ Fz w c u := fun h0 hk => by
        refine ⟨_, _, hk, run_bin (by rw [e1]; simp) (by rw [e1]; simp) ?_, TRep.int _ _⟩
        rw [e1, e2]; simp [binOp, Op.intDiv, h0]
      dsimp only [chk] at h
      split at h
      · next q hq =>
        have hm := litOf_ok hq e2
        cases hc : (!decide (q = 0)) with
        | false => rw [hc] at h; cases h
        | true => rw [hc] at h; exact key (by rw [hm]; simpa using hc) h
      · unfold sif at h
        split at h
        · cases h
        · next hc => exact key (by simpa using hc) h
  · next i n i' m _ _ _ _ =>
    have e1 := crep_int hx
    have e2 := crep_int hy
    cases hb : beqKind i i' with
    | false => rw [hb] at h; cases h
    | true =>
      rw [hb] at h
      have := beqKind_eq hb
      subst this
      dsimp only [chk] at h
      split at h <;> first
        | (cases h; done)
        | exact ⟨_, _, h, run_bin (by rw [e1]; simp) (by rw [e1]; simp) (by rw [e1, e2]; simp only [binOp, ne_eq, not_true_eq_false, if_false, Op.intArith, Op.intBits, Op.intCmp]; rfl), TRep.int _ _⟩
        | exact ⟨_, _, h, run_bin (by rw [e1]; simp) (by rw [e1]; simp) (by rw [e1, e2]; simp only [binOp, ne_eq, not_true_eq_false, if_false, Op.intArith, Op.intBits, Op.intCmp]; rfl), TRep.bool _⟩
  · next s1 s2 =>
    have e1 := crep_str hx
    have e2 := crep_str hy
    split at h
    · unfold sif at h
      split at h
      · next hj =>
        refine ⟨_, _, h, run_bin (by rw [e1]; simp) (by rw [e1]; simp) ?_, TRep.str _⟩
        rw [e1, e2]
        have : ¬ (IntKind.i64.max < ((s1.size + s2.size : Nat) : Int)) := by
          have hj' := Nat.le_of_ble_eq_true hj
          rw [show IntKind.i64.max = 9223372036854775807 from rfl]
          omega
        simp only [binOp, Op.stringOp]
        rw [if_neg (by simpa using this)]
        rfl
      · cases h
    all_goals first
      | (cases h; done)
      | exact ⟨_, _, h, run_bin (by rw [e1]; simp) (by rw [e1]; simp) (by rw [e1, e2]; rfl), TRep.bool _⟩
  · split at h
    · next b hb =>
      obtain ⟨hxu, hyu⟩ := eqNil_cells hb
      obtain ⟨hx1, hx2⟩ := crep_noagg hx hxu
      have hrun := eqNil_ok hE hb hx hy
      have hval := eqNil_val hb hx
      have hr := run_eq (P := P) (w := w) (hval.imp id (fun h => h.imp id (fun h => h.imp id .inl))) hrun
      split at h
      · exact ⟨_, _, h, run_bin hx1 hx2 hr.1, TRep.lit _⟩
      · exact ⟨_, _, h, run_bin hx1 hx2 hr.2, TRep.lit _⟩
      · cases h
    · split at h
      · next ba bb hk h1 h2 =>
        have e1 := crep_boolOf h1 hx
        have e2 := crep_boolOf h2 hy
        have hu := (kind_of hE hk).2.2.2 rfl
        have hr := run_eq (P := P) (w := w) (t := t) (a := a.eval x0) (b := a.eval y0) (.inr (.inr (.inr (.inr ⟨_, e1⟩)))) (by rw [e1, e2, equal_step]; exact eq_bl hu _ ba bb)
        split at h
        · exact ⟨_, _, h, run_bin (by rw [e1]; simp) (by rw [e1]; simp) hr.1, TRep.bool _⟩
        · exact ⟨_, _, h, run_bin (by rw [e1]; simp) (by rw [e1]; simp) hr.2, TRep.bool _⟩
        · cases h
      · cases h

theorem unCell_ok {a : Act} {op : UnOp} {D : Nat → Prop} {x : Cell E.S.K} {v : Value} (hx : CRep E.S D φ Fz w x v) {k : Cell E.S.K → Option R} {r : R} (h : unCell op x k = some r) : ∃ c u, k c = some r ∧ (Op.unary op v).run P w = .ok u w ∧ CRep E.S D φ Fz w c u := by
  unfold unCell at h
  split at h
  · rw [crep_int hx]; exact ⟨_, _, h, rfl, TRep.int _ _⟩
  · rw [crep_int hx]; exact ⟨_, _, h, rfl, TRep.int _ _⟩
  · rw [crep_bool hx]; exact ⟨_, _, h, rfl, TRep.bool _⟩
  · rw [crep_lit hx]; exact ⟨_, _, h, rfl, TRep.lit _⟩
  · cases h
end
end Go.Ve

namespace Go.Ve
open Go.RowKit Go.Lib
set_option linter.unusedVariables false
set_option linter.unusedSimpArgs false

theorem all2_of_get {α β : Type} {R : α → β → Prop} : ∀ {a : List α} {b : List β}, a.length = b.length → (∀ (j : Nat) x y, a[j]? = some x → b[j]? = some y → R x y) → All2 R a b
  | [], [], _, _ => .nil
  | x :: a, y :: b, hl, h => .cons (h 0 x y rfl rfl) (all2_of_get (by simpa using hl) (fun j x y hx hy => h (j + 1) x y (by simpa using hx) (by simpa using hy)))
  | [], _ :: _, hl, _ => by simp at hl
  | _ :: _, [], hl, _ => by simp at hl

theorem fold_set (off : Nat) : ∀ (l : List Value) (k : Nat) (cs : Array Value), off + k + l.length ≤ cs.size →
    ((l.zipIdx k).foldl (fun (cs : Array Value) p => cs.setIfInBounds (off + p.2) p.1) cs).size = cs.size ∧
    ∀ m, ((l.zipIdx k).foldl (fun (cs : Array Value) p => cs.setIfInBounds (off + p.2) p.1) cs)[m]? = if off + k ≤ m ∧ m < off + k + l.length then l[m - (off + k)]? else cs[m]?
  | [], k, cs, _ => ⟨rfl, fun m => by rw [if_neg (by simp only [List.length_nil]; omega)]; rfl⟩
  | v :: l, k, cs, h => by
    simp only [List.length_cons] at h
    obtain ⟨ih1, ih2⟩ := fold_set off l (k + 1) (cs.setIfInBounds (off + k) v) (by rw [Array.size_setIfInBounds]; omega)
    rw [List.zipIdx_cons, List.foldl_cons]
    refine ⟨by rw [ih1, Array.size_setIfInBounds], fun m => ?_⟩
    rw [ih2]
    by_cases h1 : off + (k + 1) ≤ m ∧ m < off + (k + 1) + l.length
    · rw [if_pos h1, if_pos (by simp only [List.length_cons]; omega), show m - (off + k) = (m - (off + (k + 1))) + 1 by omega, List.getElem?_cons_succ]
    · rw [if_neg h1, Array.getElem?_setIfInBounds]
      by_cases h2 : off + k = m
      · subst h2
        rw [if_pos rfl, if_pos (by omega), if_pos (by simp only [List.length_cons]; omega)]
        simp
      · rw [if_neg h2, if_neg (by simp only [List.length_cons]; omega)]
theorem fold_set_arr (off : Nat) (v cs : Array Value) (h : off + v.size ≤ cs.size) :
    (v.zipIdx.foldl (fun (cs : Array Value) p => cs.setIfInBounds (off + p.2) p.1) cs).size = cs.size ∧
    ∀ m, (v.zipIdx.foldl (fun (cs : Array Value) p => cs.setIfInBounds (off + p.2) p.1) cs)[m]? = if off ≤ m ∧ m < off + v.size then v[m - off]? else cs[m]? := by
  have := fold_set off v.toList 0 cs (by simpa using h)
  rw [← Array.foldl_toList]
  simpa using this

section
variable {P : Program} {E : Env} {R : Type} {φ : Nat → Loc} {Fz : Nat → Prop} {st : St E.S.K} {w : World}

theorem cells_size {D : Nat → Prop} {x : FV E.S.K} {v : Value} (h : FRep E.S D φ Fz w x v) (hf : full x.cells = true) : All2 (CRep E.S D φ Fz w) x.cells v.cells.toList :=
  h.cells (fun c hc hu => by subst hc hu; simp [FV.cells, full] at hf)

theorem partsF_ok {a : Act} (hI : Inv E.S φ Fz st a.tmps w) : ∀ {ps : List (Nat × Operand)} {xs : List (Nat × FV E.S.K)}, partsF st ps = some xs → All2 (fun x v => x.1 = v.1 ∧ FRep E.S (fun i => i < st.nx) φ Fz w x.2 v.2) xs (ps.map fun p => (p.1, a.eval p.2))
  | [], xs, h => by cases h; exact .nil
  | (i, o) :: ps, xs, h => by
    simp only [partsF] at h
    split at h
    · next h1 h2 => cases h; exact .cons ⟨rfl, operandF_ok hI h1⟩ (partsF_ok hI h2)
    · cases h

theorem strsOf_ok {D : Nat → Prop} : ∀ {cs : List (Cell E.S.K)} {l : List ByteArray} {vs : List Value}, strsOf cs = some l → All2 (CRep E.S D φ Fz w) cs vs → vs.length = l.length ∧ ∀ (j : Nat) (s : ByteArray), l[j]? = some s → vs[j]? = some (.string s)
  | [], l, vs, h, hr => by cases h; cases hr; exact ⟨rfl, fun j s h => by simp at h⟩
  | c :: cs, l, vs, h, hr => by
    cases hr with
    | @cons _ v _ vs hv hr =>
      cases c with
      | str s =>
        simp only [strsOf, Option.map_eq_some_iff] at h
        obtain ⟨l', h1, rfl⟩ := h
        obtain ⟨g1, g2⟩ := strsOf_ok h1 hr
        refine ⟨by simp [g1], fun j x hx => ?_⟩
        cases j with
        | zero =>
          simp only [List.getElem?_cons_zero, Option.some.injEq] at hx
          subst hx
          have hv : TRep E.S Fz w (.str s) v := hv
          cases hv
          rfl
        | succ j => simpa using g2 j x (by simpa using hx)
      | _ => simp [strsOf] at h

/-! ### struct literals -/
theorem fillC_ok {fs : List (Nat × Nat × Nat)} {place : Nat → Option (Nat × Nat)} (hp : ∀ (j off ft sz : Nat), fs[j]? = some (off, ft, sz) → place j = some (off, sz)) {D : Nat → Prop} : ∀ {ps : List (Nat × FV E.S.K)} {vs : List (Nat × Value)}, All2 (fun x v => x.1 = v.1 ∧ FRep E.S D φ Fz w x.2 v.2) ps vs →
    ∀ {cs out : List (Cell E.S.K)} {arr : Array Value}, All2 (CRep E.S D φ Fz w) cs arr.toList → fillC fs cs ps = some out → ∃ res, Instr.fill place arr vs = some res ∧ All2 (CRep E.S D φ Fz w) out res.toList := by
  intro ps vs h
  induction h with
  | nil => intro cs out arr hc hf; cases hf; exact ⟨arr, rfl, hc⟩
  | @cons x v l l' hxv _ ih =>
    intro cs out arr hc hf
    obtain ⟨i, x⟩ := x
    obtain ⟨i', v⟩ := v
    obtain ⟨he, hr⟩ := hxv
    dsimp only at he hr
    subst he
    simp only [fillC] at hf
    split at hf
    · next off ft sz hfs =>
      cases hck : (Nat.beq x.cells.length sz && Nat.ble (off + sz) cs.length && full x.cells) with
      | false => rw [hck] at hf; cases hf
      | true =>
        rw [hck] at hf
        simp only [Bool.and_eq_true] at hck
        have e1 := beq_yes hck.1.1
        have e2 := Nat.le_of_ble_eq_true hck.1.2
        have hxs := cells_size hr hck.2
        have hl1 := hxs.len
        have hl2 := hc.len
        have q1 : v.cells.toList.length = v.cells.size := Array.length_toList
        have q2 : arr.toList.length = arr.size := Array.length_toList
        obtain ⟨hs, hg⟩ := fold_set_arr off v.cells arr (by omega)
        have hnew : All2 (CRep E.S D φ Fz w) (splice cs x.cells off) (v.cells.zipIdx.foldl (fun (cs : Array Value) p => cs.setIfInBounds (off + p.2) p.1) arr).toList := by
          have q3 := (Array.length_toList (xs := v.cells.zipIdx.foldl (fun (cs : Array Value) p => cs.setIfInBounds (off + p.2) p.1) arr))
          refine all2_of_get (by rw [splice_len (by omega), q3, hs]; omega) (fun j c u hj hu => ?_)
          rw [splice_at (by omega)] at hj
          rw [Array.getElem?_toList, hg] at hu
          by_cases hin : off ≤ j ∧ j < off + v.cells.size
          · rw [if_pos hin] at hu
            rw [if_pos (by omega)] at hj
            obtain ⟨u', hu', hr'⟩ := hxs.get hj
            rw [Array.getElem?_toList, hu] at hu'
            cases hu'; exact hr'
          · rw [if_neg hin] at hu
            rw [if_neg (by omega)] at hj
            obtain ⟨u', hu', hr'⟩ := hc.get hj
            rw [Array.getElem?_toList, hu] at hu'
            cases hu'; exact hr'
        obtain ⟨res, h1, h2⟩ := ih hnew hf
        refine ⟨res, ?_, h2⟩
        simp only [Instr.fill, hp i off ft sz hfs]
        rw [if_neg (by simp; omega)]
        exact h1
    · cases hf

theorem places_ok {fields : List Field} {fs : List (Nat × Nat × Nat)} (hl : fields.length = fs.length) (h : ∀ (j off ft sz : Nat), fs[j]? = some (off, ft, sz) → ∃ f i, fields[j]? = some f ∧ f.offset = off ∧ f.type = ft ∧ P.info? ft = some i ∧ i.size = sz) :
    ∃ places, fields.mapM (fun f => (P.info? f.type).map fun i => (f.offset, i.size)) = some places ∧ ∀ (j off ft sz : Nat), fs[j]? = some (off, ft, sz) → places[j]? = some (off, sz) := by
  induction fields generalizing fs with
  | nil =>
    have : fs = [] := List.eq_nil_of_length_eq_zero (by simpa using hl.symm)
    subst this
    exact ⟨[], rfl, fun j off ft sz h => by simp at h⟩
  | cons f fields ih =>
    cases fs with
    | nil => simp at hl
    | cons q fs =>
      obtain ⟨off, ft, sz⟩ := q
      obtain ⟨places, h1, h2⟩ := ih (fs := fs) (by simpa using hl) (fun j off ft sz hj => by have := h (j + 1) off ft sz (by simpa using hj); simpa using this)
      obtain ⟨f', i, g1, g2, g3, g4, g5⟩ := h 0 off ft sz rfl
      simp only [List.getElem?_cons_zero, Option.some.injEq] at g1
      subst g1
      refine ⟨(off, sz) :: places, ?_, fun j off' ft' sz' hj => ?_⟩
      · rw [List.mapM_cons, h1, g3, g4]
        simp [g2, g5]
      · cases j with
        | zero => simp at hj; obtain ⟨rfl, rfl, rfl⟩ := hj; rfl
        | succ j => simpa using h2 j off' ft' sz' (by simpa using hj)

theorem build_ok (hE : EnvOk P E) {t : TypeId} {td : TD} (ht : E.tt t = some td) {fs : List (Nat × Nat × Nat)} (hk : td.kind = .struct fs) {D : Nat → Prop} {z : List (Cell E.S.K)} (hz : ofValues td.zero = some z) {ps : List (Nat × FV E.S.K)} {vs : List (Nat × Value)}
    (hps : All2 (fun x v => x.1 = v.1 ∧ FRep E.S D φ Fz w x.2 v.2) ps vs) {cs : List (Cell E.S.K)} (hf : fillC fs z ps = some cs) : ∃ res : Array Value, (Instr.build t vs.toArray).run P w = .ok (.agg res) w ∧ All2 (CRep E.S D φ Fz w) cs res.toList := by
  obtain ⟨i, d, zv, h1, h2, _, _, _, h6, h7, _, h9⟩ := (hE.tt t td ht).ex
  rw [hk] at h9
  obtain ⟨fields, rfl, hsz, hfld⟩ := h9
  obtain ⟨places, hp1, hp2⟩ := places_ok (P := P) (fields := fields.toList) (fs := fs) (by simpa using hsz) (fun j off ft sz hj => by simpa using hfld j off ft sz hj)
  have hz' : All2 (CRep E.S D φ Fz w) z zv.cells.toList := by rw [h7]; exact ofValues_ok hz
  obtain ⟨res, hr1, hr2⟩ := fillC_ok (place := (places.toArray[·]?)) (fun j off ft sz hj => by simpa using hp2 j off ft sz hj) hps hz' hf
  refine ⟨res, run_build w t vs.toArray res ?_, hr2⟩
  simp only [Program.built, h1, h2, h6, hp1]
  exact hr1

theorem buildA_ok (hE : EnvOk P E) {t : TypeId} {td : TD} (ht : E.tt t = some td) {n e : Nat} (hk : td.kind = .array n e) {D : Nat → Prop} {z : List (Cell E.S.K)} (hz : ofValues td.zero = some z) {ps : List (Nat × FV E.S.K)} {vs : List (Nat × Value)}
    (hps : All2 (fun x v => x.1 = v.1 ∧ FRep E.S D φ Fz w x.2 v.2) ps vs) {cs : List (Cell E.S.K)} (hf : fillC (arrFs n e) z ps = some cs) : ∃ res : Array Value, (Instr.build t vs.toArray).run P w = .ok (.agg res) w ∧ All2 (CRep E.S D φ Fz w) cs res.toList := by
  obtain ⟨i, d, zv, h1, h2, _, _, _, h6, h7, _, h9⟩ := (hE.tt t td ht).ex
  rw [hk] at h9
  obtain ⟨rfl, ie, hie, hs1⟩ := h9
  have hz' : All2 (CRep E.S D φ Fz w) z zv.cells.toList := by rw [h7]; exact ofValues_ok hz
  obtain ⟨res, hr1, hr2⟩ := fillC_ok (place := fun i => some (i * ie.size, ie.size)) (fun j off ft sz hj => by
    unfold arrFs at hj
    rw [List.getElem?_map, Option.map_eq_some_iff] at hj
    obtain ⟨a, ha, hb⟩ := hj
    have hlt := (List.getElem?_eq_some_iff.1 ha).1
    rw [List.length_range] at hlt
    rw [List.getElem?_range hlt, Option.some.injEq] at ha
    subst ha
    cases hb
    rw [hs1, Nat.mul_one]) hps hz' hf
  refine ⟨res, run_build w t vs.toArray res ?_, hr2⟩
  simp only [Program.built, h1, h2, h6, hie]
  exact hr1

/-! ### slice literals -/
theorem fill_rows {n sz : Nat} : ∀ {ps : List (Nat × Value)} {arr : Array Value}, arr.size = n * sz → (∀ p ∈ ps, p.1 < n ∧ p.2.cells.size = sz) → (ps.map (·.1)).Nodup →
    ∃ out, Instr.fill (fun i => some (i * sz, sz)) arr ps = some out ∧ out.size = arr.size ∧ ∀ i j, i < n → j < sz → out[i * sz + j]? = match get ps i with | some v => v.cells[j]? | none => arr[i * sz + j]?
  | [], arr, _, _, _ => ⟨arr, rfl, rfl, fun i j _ _ => rfl⟩
  | (i0, v) :: ps, arr, hs, h, hn => by
    obtain ⟨h1, h2⟩ := h (i0, v) (by simp)
    dsimp only at h1 h2
    have hmul : (i0 + 1) * sz ≤ n * sz := Nat.mul_le_mul_right _ h1
    rw [Nat.add_mul, Nat.one_mul] at hmul
    obtain ⟨hf1, hf2⟩ := fold_set_arr (i0 * sz) v.cells arr (by omega)
    simp only [List.map_cons, List.nodup_cons] at hn
    obtain ⟨out, g1, g2, g3⟩ := fill_rows (ps := ps) (arr := v.cells.zipIdx.foldl (fun (cs : Array Value) p => cs.setIfInBounds (i0 * sz + p.2) p.1) arr) (by rw [hf1]; exact hs) (fun p hp => h p (List.mem_cons_of_mem _ hp)) hn.2
    refine ⟨out, ?_, by rw [g2, hf1], fun i j hi hj => ?_⟩
    · simp only [Instr.fill]
      rw [if_neg (by simp; omega)]
      exact g1
    · rw [g3 i j hi hj, get_cons]
      by_cases he : i = i0
      · subst he
        have hno : get ps i = none := by
          cases hg : get ps i with
          | none => rfl
          | some v' =>
            exfalso
            apply hn.1
            clear g3 g1 hn h hf2 hf1 hmul
            induction ps with
            | nil => simp [get] at hg
            | cons q ps ih =>
              obtain ⟨a, b⟩ := q
              rw [get_cons] at hg
              by_cases hq : i = a
              · simp [hq]
              · rw [if_neg hq] at hg; simp; right; simpa using ih hg
        rw [hno, if_pos rfl]
        dsimp only
        rw [hf2, if_pos (by omega), show i * sz + j - i * sz = j by omega]
      · rw [if_neg he]
        cases hg : get ps i with
        | some v' => rfl
        | none =>
          dsimp only
          rw [hf2, if_neg ?_]
          rintro ⟨q1, q2⟩
          rcases Nat.lt_or_gt_of_ne he with hlt | hlt
          · have : (i + 1) * sz ≤ i0 * sz := Nat.mul_le_mul_right _ hlt
            rw [Nat.add_mul, Nat.one_mul] at this
            omega
          · have : (i0 + 1) * sz ≤ i * sz := Nat.mul_le_mul_right _ hlt
            rw [Nat.add_mul, Nat.one_mul] at this
            omega

theorem get_parts {D : Nat → Prop} {ps : List (Nat × FV E.S.K)} {vs : List (Nat × Value)} (h : All2 (fun x v => x.1 = v.1 ∧ FRep E.S D φ Fz w x.2 v.2) ps vs) (i : Nat) : (get ps i = none ∧ get vs i = none) ∨ ∃ x v, get ps i = some x ∧ get vs i = some v ∧ FRep E.S D φ Fz w x v ∧ (∃ p ∈ ps, p.2 = x) := by
  induction h with
  | nil => exact .inl ⟨rfl, rfl⟩
  | @cons x v l l' hxv _ ih =>
    obtain ⟨a, x⟩ := x
    obtain ⟨a', v⟩ := v
    obtain ⟨he, hr⟩ := hxv
    dsimp only at he hr
    subst he
    rw [get_cons, get_cons]
    by_cases hi : i = a
    · rw [if_pos hi, if_pos hi]; exact .inr ⟨x, v, rfl, rfl, hr, (a, x), by simp, rfl⟩
    · rw [if_neg hi, if_neg hi]
      rcases ih with h | ⟨x', v', h1, h2, h3, p, hp, h4⟩
      · exact .inl h
      · exact .inr ⟨x', v', h1, h2, h3, p, List.mem_cons_of_mem _ hp, h4⟩

theorem rowsOf_ok (hR : Rel E.S (fun i => i < st.nx) φ Fz st.heap w) {e : Nat} {z : List (Cell E.S.K)} {ps : List (Nat × FV E.S.K)} {row : Nat → List Value}
    (hrow : ∀ i, All2 (CRep E.S (fun i => i < st.nx) φ Fz w) (match get ps i with | some x => x.cells | none => z) (row i)) : ∀ (n i : Nat) {l : List (E.S.K e)} {fr : List Nat}, rowsOf E st e z ps n i = some (l, fr) →
      l.length = n ∧ ∀ (m : Nat) (x : E.S.K e), l[m]? = some x → All2 (TRep E.S (FzA φ Fz st.heap w fr) w) (E.S.enc e x) (row (i + m))
  | 0, i, l, fr, h => by cases h; exact ⟨rfl, fun m x hx => by simp at hx⟩
  | n + 1, i, l, fr, h => by
    simp only [rowsOf] at h
    split at h
    · next x fr1 xs fr2 h1 h2 =>
      cases h
      obtain ⟨ih1, ih2⟩ := rowsOf_ok hR hrow n (i + 1) h2
      refine ⟨by simp [ih1], fun m y hy => ?_⟩
      cases m with
      | zero =>
        simp at hy; subst hy
        exact forall₂_imp (fun _ _ h => TRep.fz (FzA.mono fun _ h => List.mem_append_left _ h) h) (asRow_ok hR h1 (hrow i))
      | succ m =>
        have := ih2 m y (by simpa using hy)
        rw [show i + 1 + m = i + (m + 1) by omega] at this
        exact forall₂_imp (fun _ _ h => TRep.fz (FzA.mono fun _ h => List.mem_append_right _ h) h) this
    · cases h
theorem nodup_of {l : List Nat} (h : nodupIds l = true) : l.Nodup := by
  induction l with
  | nil => exact List.nodup_nil
  | cons a l ih => obtain ⟨h1, h2⟩ := nodup_tail h; exact List.nodup_cons.2 ⟨h1, ih h2⟩

theorem vals_rows {Fz' : Nat → Prop} {e : Nat} (hsz : 0 < E.S.sz e) {l : List (E.S.K e)} {cur : Array Value} (row : Nat → List Value) (h1 : ∀ (m : Nat) (x : E.S.K e), l[m]? = some x → All2 (TRep E.S Fz' w) (E.S.enc e x) (row m)) (h2 : ∀ i j, i < l.length → j < E.S.sz e → cur[i * E.S.sz e + j]? = (row i)[j]?) :
    ∃ vs, Vals E.S Fz' w e l vs ∧ ∀ (m : Nat) (v : Value), vs[m]? = some v → cur[m]? = some v :=
  vals_of hsz l (fun m v => cur[m]? = some v) (fun i x j c hx hc => by
    obtain ⟨u, hu, ht⟩ := (h1 i x hx).get hc
    have hi := (List.getElem?_eq_some_iff.1 hx).1
    have hj := (List.getElem?_eq_some_iff.1 hc).1
    rw [E.S.enc_length] at hj
    exact ⟨u, by rw [h2 i j hi hj]; exact hu, ht⟩)

theorem buildSlice_ok (hE : EnvOk P E) (hR : Rel E.S (fun i => i < st.nx) φ Fz st.heap w) {t : TypeId} {e : Nat} (ht : sliceOf E t = some e) {ed : TD} (hed : E.tt e = some ed) {z : List (Cell E.S.K)} (hz : ofValues ed.zero = some z) {ps : List (Nat × FV E.S.K)} {vs : List (Nat × Value)}
    (hps : All2 (fun x v => x.1 = v.1 ∧ FRep E.S (fun i => i < st.nx) φ Fz w x.2 v.2) ps vs) {n : Nat} (hn : n * E.S.sz e ≤ 16777216) (hlt : ∀ p ∈ vs, p.1 < n) (hnd : nodupIds (vs.map (·.1)) = true) (hfull : ∀ p ∈ ps, full p.2.cells = true) {l : List (E.S.K e)} {fr : List Nat}
    (hrows : rowsOf E st e z ps n 0 = some (l, fr)) {k : Kn E R} {r : R} (h : newVec E { st with heap := freeze fr st.heap } e l k = some r) {next : Value → World → Prop} (hG : Goal E.S φ Fz st w k r next) :
    ∃ v w', (Instr.buildSlice t n vs.toArray).run P w = .ok v w' ∧ next v w' := by
  obtain ⟨hund, i, zv, ed', hed', hi, hsize, _, _, _, hzi, hzc, hzl, hsz⟩ := hE.sliceOf ht
  rw [hed] at hed'; cases hed'
  let row : Nat → List Value := fun i => match get vs i with | some v => v.cells.toList | none => zv.cells.toList
  have hrow : ∀ i, All2 (CRep E.S (fun i => i < st.nx) φ Fz w) (match get ps i with | some x => x.cells | none => z) (row i) := fun i => by
    rcases get_parts hps i with ⟨h1, h2⟩ | ⟨x, v, h1, h2, h3, p, hp, h4⟩
    · simp only [row, h1, h2]; rw [hzc]; exact ofValues_ok hz
    · simp only [row, h1, h2]; exact cells_size h3 (by rw [← h4]; exact hfull p hp)
  obtain ⟨hll, hlr⟩ := rowsOf_ok hR hrow n 0 hrows
  have hzs : zv.cells.size = E.S.sz e := by rw [← hzl, ← hzc, Array.length_toList]
  -- each part has an element's size
  have hpsz : ∀ p ∈ vs, p.2.cells.size = E.S.sz e := by
    intro p hp
    have hget : ∃ v, get vs p.1 = some v := by
      clear hnd hlt hps hrow hlr
      induction vs with
      | nil => cases hp
      | cons q vs ih =>
        obtain ⟨a, b⟩ := q
        rw [get_cons]
        rcases List.mem_cons.1 hp with rfl | hp
        · exact ⟨_, if_pos rfl⟩
        · by_cases he : p.1 = a
          · exact ⟨_, if_pos he⟩
          · rw [if_neg he]; exact ih hp
    have hval : get vs p.1 = some p.2 := by
      have hnd' := nodup_of hnd
      clear hlt hps hrow hlr hget hnd
      induction vs with
      | nil => cases hp
      | cons q vs ih =>
        obtain ⟨a, b⟩ := q
        simp only [List.map_cons, List.nodup_cons] at hnd'
        rw [get_cons]
        rcases List.mem_cons.1 hp with rfl | hp
        · exact if_pos rfl
        · rw [if_neg (fun he => hnd'.1 (by rw [← he]; exact List.mem_map_of_mem hp))]
          exact ih hp hnd'.2
    have hpn := hlt p hp
    have h1 := hlr p.1 (l[p.1]'(by omega)) (List.getElem?_eq_getElem (by omega))
    have h2 := h1.len
    rw [E.S.enc_length, Nat.zero_add] at h2
    simp only [row, hval, Array.length_toList] at h2
    exact h2.symm
  have hA := After.freeze hR fr
  by_cases hn0 : n = 0
  · subst hn0
    have hvs : vs = [] := by
      cases vs with
      | nil => rfl
      | cons p vs => have := hlt p (by simp); omega
    subst hvs
    have hl0 : l = [] := List.eq_nil_of_length_eq_zero hll
    subst hl0
    refine ⟨.slice (some ⟨w.heap.size, 0, none⟩) 0 0, w.alloc (.cells #[] e), ?_, ?_⟩
    · have h0 : (Array.map (fun x => (default : Value)) (Array.range 0)) = #[] := by simp
      simp [Instr.buildSlice, run_underlying hund, sizeOf, typeInfo, hi, Instr.fill, newRow, h0]
    · have := newVec_ok (w1 := w) (st := { st with heap := freeze fr st.heap }) hA.rel (H := freeze fr st.heap) (fun _ _ h => h) h (next := next) (fun v st' φ' Fz' x w' hk hA' hs => hG v st' φ' Fz' x w' hk (hA.trans hA') hs)
        (Chg.alloc _ w (.cells #[] e)) (b := w.heap.size) (Nat.le_refl _) (cap := 0) (heap_alloc_new w (.cells #[] e)) (Nat.le_refl _) (by simp) (fun k hk => by simp at hk) (vs := []) All2.nil (fun m v hm => by simp at hm)
      exact this
  · have hpos : n * E.S.sz e ≠ 0 := Nat.mul_ne_zero hn0 (by omega)
    obtain ⟨out, g1, g2, g3⟩ := fill_rows (n := n) (sz := E.S.sz e) (ps := vs) (arr := (Array.range (n * E.S.sz e)).map (zv.cells[· % zv.cells.size]!)) (by simp) (fun p hp => ⟨hlt p hp, hpsz p hp⟩) (nodup_of hnd)
    have hout : ∀ i j, i < l.length → j < E.S.sz e → out[i * E.S.sz e + j]? = (row (0 + i))[j]? := fun i j hil hj => by
      rw [g3 i j (by omega) hj, Nat.zero_add]
      cases hg : get vs i with
      | some v => simp [row, hg]
      | none =>
        have hm : i * E.S.sz e + j < n * E.S.sz e := by
          have : (i + 1) * E.S.sz e ≤ n * E.S.sz e := Nat.mul_le_mul_right _ (by omega)
          rw [Nat.add_mul, Nat.one_mul] at this
          omega
        have hmod : (i * E.S.sz e + j) % zv.cells.size = j := by
          rw [hzs, Nat.add_comm, Nat.mul_comm, Nat.add_mul_mod_self_left, Nat.mod_eq_of_lt hj]
        have hr : (Array.range (n * E.S.sz e))[i * E.S.sz e + j]? = some (i * E.S.sz e + j) := by rw [Array.getElem?_range, if_pos hm]
        simp only [row, hg, Array.getElem?_map, hr, Option.map_some, hmod, Array.getElem?_toList]
        rw [getElem!_pos zv.cells j (by omega), Array.getElem?_eq_getElem (by omega)]
    obtain ⟨vv, hv1, hv2⟩ := vals_rows (w := w) hsz (fun m => row (0 + m)) hlr hout
    refine ⟨.slice (some ⟨w.heap.size, 0, none⟩) n n, w.alloc (.cells out e), ?_, ?_⟩
    · have hgt : ¬ (16777216 < n * E.S.sz e) := by omega
      simp [Instr.buildSlice, run_underlying hund, sizeOf, typeInfo, zeroValue, hi, hsize, hzi, hgt, hpos, g1, newRow]
    · have := newVec_ok (w1 := w) (st := { st with heap := freeze fr st.heap }) hA.rel (H := freeze fr st.heap) (fun _ _ h => h) h (next := next) (fun v st' φ' Fz' x w' hk hA' hs => hG v st' φ' Fz' x w' hk (hA.trans hA') hs)
        (Chg.alloc _ w (.cells out e)) (b := w.heap.size) (Nat.le_refl _) (cap := n) (heap_alloc_new w (.cells out e)) (by omega) (by rw [g2]; simp) (fun k hk => by simp) hv1 hv2
      rw [hll] at this
      exact this

/-- a slice literal runs: the new block's cells -/
theorem buildSlice_run (hE : EnvOk P E) {t : TypeId} {e : Nat} (ht : sliceOf E t = some e) {ed : TD} (hed : E.tt e = some ed) {vs : List (Nat × Value)} {n : Nat} (hn : n * E.S.sz e ≤ 16777216) (hlt : ∀ p ∈ vs, p.1 < n) (hnd : nodupIds (vs.map (·.1)) = true) (hpsz : ∀ p ∈ vs, p.2.cells.size = E.S.sz e) :
    ∃ out : Array Value, (Instr.buildSlice t n vs.toArray).run P w = .ok (.slice (some ⟨w.heap.size, 0, none⟩) n n) (w.alloc (.cells out e)) ∧ out.size = n * E.S.sz e ∧
      ∀ i j, i < n → j < E.S.sz e → out[i * E.S.sz e + j]? = (match get vs i with | some v => v.cells.toList | none => ed.zero)[j]? := by
  obtain ⟨hund, i, zv, ed', hed', hi, hsize, _, _, _, hzi, hzc, hzl, hsz⟩ := hE.sliceOf ht
  rw [hed] at hed'; cases hed'
  have hzs : zv.cells.size = E.S.sz e := by rw [← hzl, ← hzc, Array.length_toList]
  by_cases hn0 : n = 0
  · subst hn0
    have hvs : vs = [] := by
      cases vs with
      | nil => rfl
      | cons p vs => have := hlt p (by simp); omega
    subst hvs
    refine ⟨#[], ?_, by simp, fun i j hi => by omega⟩
    have h0 : (Array.map (fun x => (default : Value)) (Array.range 0)) = #[] := by simp
    simp [Instr.buildSlice, run_underlying hund, sizeOf, typeInfo, hi, Instr.fill, newRow, h0]
  · have hpos : n * E.S.sz e ≠ 0 := Nat.mul_ne_zero hn0 (by omega)
    obtain ⟨out, g1, g2, g3⟩ := fill_rows (n := n) (sz := E.S.sz e) (ps := vs) (arr := (Array.range (n * E.S.sz e)).map (zv.cells[· % zv.cells.size]!)) (by simp) (fun p hp => ⟨hlt p hp, hpsz p hp⟩) (nodup_of hnd)
    refine ⟨out, ?_, by rw [g2]; simp, fun i j hil hj => ?_⟩
    · have hgt : ¬ (16777216 < n * E.S.sz e) := by omega
      simp [Instr.buildSlice, run_underlying hund, sizeOf, typeInfo, zeroValue, hi, hsize, hzi, hgt, hpos, g1, newRow]
    · rw [g3 i j (by omega) hj]
      cases hg : get vs i with
      | some v => simp
      | none =>
        have hm : i * E.S.sz e + j < n * E.S.sz e := by
          have : (i + 1) * E.S.sz e ≤ n * E.S.sz e := Nat.mul_le_mul_right _ (by omega)
          rw [Nat.add_mul, Nat.one_mul] at this
          omega
        have hmod : (i * E.S.sz e + j) % zv.cells.size = j := by
          rw [hzs, Nat.add_comm, Nat.mul_comm, Nat.add_mul_mod_self_left, Nat.mod_eq_of_lt hj]
        have hr : (Array.range (n * E.S.sz e))[i * E.S.sz e + j]? = some (i * E.S.sz e + j) := by rw [Array.getElem?_range, if_pos hm]
        simp only [Array.getElem?_map, hr, Option.map_some, hmod]
        rw [← hzc, Array.getElem?_toList, getElem!_pos zv.cells j (by omega), Array.getElem?_eq_getElem (by omega)]

theorem rowsOfD_ok (hR : Rel E.S (fun i => i < st.nx) φ Fz st.heap w) {e : Nat} {z : List (Cell E.S.K)} {ps : List (Nat × FV E.S.K)} {row : Nat → List Value}
    (hrow : ∀ i, All2 (CRep E.S (fun i => i < st.nx) φ Fz w) (match get ps i with | some x => x.cells | none => z) (row i)) : ∀ (n i : Nat) {l : List (E.S.K e)} {ids : List Nat}, rowsOfD E st e z ps n i = some (l, ids) →
      l.length = n ∧ (∀ m, m < n → (row (i + m)).length = E.S.sz e) ∧ ∃ g : Nat → Nat → Option Nat, (∀ m j id, g m j = some id → id ∈ ids) ∧ (ids.Nodup → ∀ m j m' j' id, g m j = some id → g m' j' = some id → m = m' ∧ j = j') ∧
        ∀ (m : Nat) (x : E.S.K e) (j : Nat) (c : Cell E.S.K), l[m]? = some x → (E.S.enc e x)[j]? = some c → ∃ u, (row (i + m))[j]? = some u ∧ DRep E.S w c u ∧ ∀ k, Reach E.S w c u k → Taken w φ st.heap (g m j) k
  | 0, i, l, ids, h => by cases h; exact ⟨rfl, fun m hm => by omega, fun _ _ => none, fun _ _ _ h => (by cases h), fun _ _ _ _ _ _ h => (by cases h), fun m x j c hx => by simp at hx⟩
  | n + 1, i, l, ids, h => by
    simp only [rowsOfD] at h
    split at h
    · next x i1 xs i2 h1 h2 =>
      cases h
      obtain ⟨hl, hs, g, g1, g2, g3⟩ := rowsOfD_ok hR hrow n (i + 1) h2
      obtain ⟨hs0, f, f1, f2, f3⟩ := asRowD_ok hR h1 (hrow i)
      refine ⟨by simp [hl], fun m hm => ?_, fun | 0 => f | m + 1 => g m, fun m j id hj => ?_, fun hnd m j m' j' id hj hj' => ?_, fun m y j c hy hc => ?_⟩
      · cases m with
        | zero => exact hs0
        | succ m => rw [show i + (m + 1) = i + 1 + m by omega]; exact hs m (by omega)
      · cases m with
        | zero => exact List.mem_append_left _ (f1 j id hj)
        | succ m => exact List.mem_append_right _ (g1 m j id hj)
      · obtain ⟨n1, n2, n3⟩ := List.nodup_append.1 hnd
        cases m with
        | zero =>
          cases m' with
          | zero => exact ⟨rfl, f2 n1 j j' id hj hj'⟩
          | succ m' => exact (n3 id (f1 j id hj) id (g1 m' j' id hj') rfl).elim
        | succ m =>
          cases m' with
          | zero => exact (n3 id (f1 j' id hj') id (g1 m j id hj) rfl).elim
          | succ m' => obtain ⟨q1, q2⟩ := g2 n2 m j m' j' id hj hj'; exact ⟨by rw [q1], q2⟩
      · cases m with
        | zero =>
          simp only [List.getElem?_cons_zero, Option.some.injEq] at hy
          subst hy
          exact f3 j c hc
        | succ m =>
          rw [show i + (m + 1) = i + 1 + m by omega]
          exact g3 m y j c (by simpa using hy) hc
    · cases h

/-- a tree in a new block -/
theorem newTree_ok (hR : Rel E.S (fun i => i < st.nx) φ Fz st.heap w) {ids : List Nat} (hnd : ids.Nodup) {e : Nat} {l : List (E.S.K e)} {k : Kn E R} {r : R} (h : newDeep E { st with heap := dels ids st.heap } e l k = some r) {next : Value → World → Prop} (hG : Goal E.S φ Fz st w k r next)
    {cap : Nat} {out : Array Value} (hcap : l.length ≤ cap) (hs : cap * E.S.sz e ≤ out.size) {g : Nat → Nat → Option Nat} (g1 : ∀ m j id, g m j = some id → id ∈ ids) (g2 : ids.Nodup → ∀ m j m' j' id, g m j = some id → g m' j' = some id → m = m' ∧ j = j')
    (g3 : ∀ (m : Nat) (x : E.S.K e) (j : Nat) (c : Cell E.S.K), l[m]? = some x → (E.S.enc e x)[j]? = some c → ∃ u, out[m * E.S.sz e + j]? = some u ∧ DRep E.S w c u ∧ ∀ k, Reach E.S w c u k → Taken w φ st.heap (g m j) k) :
    next (.slice (some ⟨w.heap.size, 0, none⟩) l.length cap) (w.alloc (.cells out e)) := by
  have hT : ∀ o k, Taken w φ st.heap o k → ∃ id0 b0, o = some id0 ∧ get st.heap id0 = some b0 ∧ canFz b0 = true ∧ b0.own = true ∧ ∀ o, cellsOf w (φ id0) b0 k o := fun o k ⟨id0, b0, x, h1, h2, h3, h4, h5⟩ => ⟨id0, b0, h1, h2, h3, h4, fun o' => h5.any h3 o'⟩
  have hh := heap_alloc_new w (.cells out e)
  have := newDeep_ok (L := ⟨some ⟨w.heap.size, 0, none⟩, l.length, cap, E.S.sz e⟩) hR (H := dels ids st.heap) (fun id b hb => by
      rw [get_dels] at hb
      split at hb
      · cases hb
      · exact hb) h hG (O := fun _ _ => False) (fun _ _ h => h.elim) (Chg.alloc _ w (.cells out e)) rfl rfl hcap (fun ad had => (by cases had; unfold World.shape?; rw [hh]; rfl))
    (fun _ => ⟨rfl, out, (0, 0), hh, by simpa [Loc.o] using hs, fun k _ _ hk => by simp at hk⟩) (fun _ => .inl (Nat.le_refl _)) (fun i j k => Taken w φ st.heap (g i j) k) (fun i j k ht => by
      obtain ⟨id0, b0, h1, h2, h3, h4, h5⟩ := hT _ k ht
      exact ⟨id0, b0, 0, h2, h4, by rw [get_dels, if_pos (g1 i j id0 h1)], h3, h5 0⟩) (fun _ _ _ _ _ h => h) (fun i j k ht => by
      obtain ⟨id0, b0, h1, h2, h3, h4, h5⟩ := hT _ k ht
      have := hR.cellLt h2 (h5 0)
      show k ≠ w.heap.size
      omega) (fun i j i' j' k ha hb => by
      have hsame := Taken.same hR ha hb
      obtain ⟨id0, _, e1, _⟩ := hT _ _ ha
      exact g2 hnd _ _ _ _ id0 e1 (hsame ▸ e1)) (fun i x j c hx hc => by
      obtain ⟨u, hu, hd, hr⟩ := g3 i x j c hx hc
      refine ⟨u, ?_, hd, hr⟩
      show (w.alloc (.cells out e)).cell? ⟨w.heap.size, 0 + (i * E.S.sz e + j), none⟩ = some u
      rw [cell_at hh, Nat.zero_add]; exact hu)
  exact this

theorem buildSliceD_ok (hE : EnvOk P E) (hR : Rel E.S (fun i => i < st.nx) φ Fz st.heap w) {t : TypeId} {e : Nat} (ht : sliceOf E t = some e) {ed : TD} (hed : E.tt e = some ed) {z : List (Cell E.S.K)} (hz : ofValues ed.zero = some z) {ps : List (Nat × FV E.S.K)} {vs : List (Nat × Value)}
    (hps : All2 (fun x v => x.1 = v.1 ∧ FRep E.S (fun i => i < st.nx) φ Fz w x.2 v.2) ps vs) {n : Nat} (hn : n * E.S.sz e ≤ 16777216) (hlt : ∀ p ∈ vs, p.1 < n) (hnd : nodupIds (vs.map (·.1)) = true) (hfull : ∀ p ∈ ps, full p.2.cells = true) {l : List (E.S.K e)} {ids : List Nat}
    (hrows : rowsOfD E st e z ps n 0 = some (l, ids)) (hids : nodupIds ids = true) {k : Kn E R} {r : R} (h : newDeep E { st with heap := dels ids st.heap } e l k = some r) {next : Value → World → Prop} (hG : Goal E.S φ Fz st w k r next) :
    ∃ v w', (Instr.buildSlice t n vs.toArray).run P w = .ok v w' ∧ next v w' := by
  let row : Nat → List Value := fun i => match get vs i with | some v => v.cells.toList | none => ed.zero
  have hrow : ∀ i, All2 (CRep E.S (fun i => i < st.nx) φ Fz w) (match get ps i with | some x => x.cells | none => z) (row i) := fun i => by
    rcases get_parts hps i with ⟨h1, h2⟩ | ⟨x, v, h1, h2, h3, p, hp, h4⟩
    · simp only [row, h1, h2]; exact ofValues_ok hz
    · simp only [row, h1, h2]; exact cells_size h3 (by rw [← h4]; exact hfull p hp)
  obtain ⟨hll, hrl, g, g1, g2, g3⟩ := rowsOfD_ok hR hrow n 0 hrows
  have hpsz : ∀ p ∈ vs, p.2.cells.size = E.S.sz e := fun p hp => by
    have hval : get vs p.1 = some p.2 := by
      have hnd' := nodup_of hnd
      clear hlt hps hrow hrl g3 hnd
      induction vs with
      | nil => cases hp
      | cons q vs ih =>
        obtain ⟨a, b⟩ := q
        simp only [List.map_cons, List.nodup_cons] at hnd'
        rw [get_cons]
        rcases List.mem_cons.1 hp with rfl | hp
        · exact if_pos rfl
        · rw [if_neg (fun he => hnd'.1 (by rw [← he]; exact List.mem_map_of_mem hp))]
          exact ih hp hnd'.2
    have h2 := hrl p.1 (hlt p hp)
    rw [Nat.zero_add] at h2
    simp only [row, hval, Array.length_toList] at h2
    exact h2
  obtain ⟨out, o1, o2, o3⟩ := buildSlice_run (w := w) hE ht hed hn hlt hnd hpsz
  refine ⟨_, _, o1, ?_⟩
  have := newTree_ok hR (nodup_ids hids) h hG (cap := n) (out := out) (by rw [hll]; exact Nat.le_refl _) (by rw [o2]; exact Nat.le_refl _) g1 g2 (fun m x j c hx hc => by
    obtain ⟨u, hu, hd, hr⟩ := g3 m x j c hx hc
    have hj : j < E.S.sz e := by have := (List.getElem?_eq_some_iff.1 hc).1; rw [E.S.enc_length] at this; exact this
    have hm : m < n := by have := (List.getElem?_eq_some_iff.1 hx).1; omega
    rw [Nat.zero_add] at hu
    exact ⟨u, by rw [o3 m j hm hj]; exact hu, hd, hr⟩)
  rw [hll] at this
  exact this

/-! ### made slices -/
theorem makeSlice_ok (hE : EnvOk P E) (hR : Rel E.S (fun i => i < st.nx) φ Fz st.heap w) {t : TypeId} {e : Nat} (ht : sliceOf E t = some e) {ed : TD} (hed : E.tt e = some ed) {z : List (Cell E.S.K)} (hz : ofValues ed.zero = some z) {x : E.S.K e} (hx : asRow E st e z = some (x, []))
    {n m : Int} {kn km : IntKind} (hb : (le3 0 n m && room m.toNat ed.bytes) = true) {k : Kn E R} {r : R} (h : newVec E st e (List.replicate n.toNat x) k = some r) {next : Value → World → Prop} (hG : Goal E.S φ Fz st w k r next) :
    ∃ v w', (Instr.makeSlice t (.int kn n) (.int km m)).run P w = .ok v w' ∧ next v w' := by
  obtain ⟨hund, i, zv, ed', hed', hi, hsize, _, hbytes, hb0, hzi, hzc, hzl, hsz⟩ := hE.sliceOf ht
  rw [hed] at hed'; cases hed'
  simp only [Bool.and_eq_true, le3, decide_eq_true_eq] at hb
  obtain ⟨⟨h0, hnm⟩, hroom⟩ := hb
  have hroom := Nat.le_of_ble_eq_true hroom
  rw [← hbytes] at hroom
  have hm1 : m.toNat ≤ m.toNat * i.bytes := Nat.le_mul_of_pos_right _ hb0
  have hby : (i.bytes : Int) * m ≤ 281474976710656 := by
    have : (m.toNat : Int) = m := by omega
    rw [← this, Int.mul_comm, ← Int.natCast_mul]; omega
  have hrun := run_make w t e i zv hund hi hzi kn km n m h0 hnm hby (by omega)
  refine ⟨_, _, hrun, ?_⟩
  have hrow := asRow_ok hR hx (vs := zv.cells.toList) (by rw [hzc]; exact ofValues_ok hz)
  have hzs : zv.cells.size = E.S.sz e := by rw [← hzl, ← hzc, Array.length_toList]
  obtain ⟨vv, hv1, hv2⟩ := vals_rows (w := w) (Fz' := FzA φ Fz st.heap w []) (l := List.replicate n.toNat x) hsz (cur := madeCells zv.cells (m.toNat * i.size)) (fun _ => zv.cells.toList) (fun q y hy => by
      rw [List.getElem?_replicate] at hy
      split at hy
      · cases hy; exact hrow
      · cases hy) (fun a b ha hbz => by
      rw [List.length_replicate] at ha
      have hlt : a * E.S.sz e + b < m.toNat * i.size := by
        rw [hsize]
        have : (a + 1) * E.S.sz e ≤ m.toNat * E.S.sz e := Nat.mul_le_mul_right _ (by omega)
        rw [Nat.add_mul, Nat.one_mul] at this
        omega
      have hmod : (a * E.S.sz e + b) % zv.cells.size = b := by rw [hzs, Nat.add_comm, Nat.mul_comm, Nat.add_mul_mod_self_left, Nat.mod_eq_of_lt hbz]
      have hr : (Array.range (m.toNat * i.size))[a * E.S.sz e + b]? = some (a * E.S.sz e + b) := by rw [Array.getElem?_range, if_pos hlt]
      simp only [madeCells, Array.getElem?_map, hr, Option.map_some, hmod, Array.getElem?_toList]
      rw [getElem!_pos zv.cells b (by omega), Array.getElem?_eq_getElem (by omega)])
  have hv1' : Vals E.S Fz w e (List.replicate n.toNat x) vv := forall₂_imp (fun _ _ h => TRep.fz (fun k hk => FzA.nil hk) h) hv1
  have := newVec_ok (w1 := w) (H := st.heap) hR (fun _ _ h => h) h hG (Chg.alloc _ w (.cells (madeCells zv.cells (m.toNat * i.size)) e)) (b := w.heap.size) (Nat.le_refl _) (cap := m.toNat) (heap_alloc_new w _) (by rw [List.length_replicate]; omega)
    (by rw [size_madeCells, hsize]; exact Nat.le_refl _) (fun k hk => by simp) hv1' hv2
  rw [List.length_replicate] at this
  exact this

theorem makeSliceD_ok (hE : EnvOk P E) (hR : Rel E.S (fun i => i < st.nx) φ Fz st.heap w) {t : TypeId} {e : Nat} (ht : sliceOf E t = some e) {ed : TD} (hed : E.tt e = some ed) {z : List (Cell E.S.K)} (hz : ofValues ed.zero = some z) {x : E.S.K e} (hx : asRowD E st e z = some (x, []))
    {n m : Int} {kn km : IntKind} (hb : (le3 0 n m && room m.toNat ed.bytes) = true) {k : Kn E R} {r : R} (h : newDeep E st e (List.replicate n.toNat x) k = some r) {next : Value → World → Prop} (hG : Goal E.S φ Fz st w k r next) :
    ∃ v w', (Instr.makeSlice t (.int kn n) (.int km m)).run P w = .ok v w' ∧ next v w' := by
  obtain ⟨hund, i, zv, ed', hed', hi, hsize, _, hbytes, hb0, hzi, hzc, hzl, hsz⟩ := hE.sliceOf ht
  rw [hed] at hed'; cases hed'
  simp only [Bool.and_eq_true, le3, decide_eq_true_eq] at hb
  obtain ⟨⟨h0, hnm⟩, hroom⟩ := hb
  have hroom := Nat.le_of_ble_eq_true hroom
  rw [← hbytes] at hroom
  have hm1 : m.toNat ≤ m.toNat * i.bytes := Nat.le_mul_of_pos_right _ hb0
  have hby : (i.bytes : Int) * m ≤ 281474976710656 := by
    have : (m.toNat : Int) = m := by omega
    rw [← this, Int.mul_comm, ← Int.natCast_mul]; omega
  have hrun := run_make w t e i zv hund hi hzi kn km n m h0 hnm hby (by omega)
  refine ⟨_, _, hrun, ?_⟩
  obtain ⟨_, f, f1, _, f3⟩ := asRowD_ok hR hx (vs := zv.cells.toList) (by rw [hzc]; exact ofValues_ok hz)
  have hzs : zv.cells.size = E.S.sz e := by rw [← hzl, ← hzc, Array.length_toList]
  have := newTree_ok (ids := []) hR List.nodup_nil (by show newDeep E { st with heap := st.heap } e _ k = some r; exact h) hG (cap := m.toNat) (out := madeCells zv.cells (m.toNat * i.size)) (by rw [List.length_replicate]; omega) (by rw [size_madeCells, hsize]; exact Nat.le_refl _)
    (g := fun _ _ => none) (fun _ _ _ h => by cases h) (fun _ _ _ _ _ _ h => by cases h) (fun a y b c hy hc => by
      rw [List.getElem?_replicate] at hy
      split at hy
      · next ha =>
        cases hy
        have hbz : b < E.S.sz e := by have := (List.getElem?_eq_some_iff.1 hc).1; rw [E.S.enc_length] at this; exact this
        obtain ⟨u, hu, hd, hr⟩ := f3 b c hc
        have hnone : f b = none := by
          cases hf : f b with
          | none => rfl
          | some id => exact absurd (f1 b id hf) (by simp)
        refine ⟨u, ?_, hd, fun k hk => by have := hr k hk; rwa [hnone] at this⟩
        have hlt : a * E.S.sz e + b < m.toNat * i.size := by
          rw [hsize]
          have : (a + 1) * E.S.sz e ≤ m.toNat * E.S.sz e := Nat.mul_le_mul_right _ (by omega)
          rw [Nat.add_mul, Nat.one_mul] at this
          omega
        have hmod : (a * E.S.sz e + b) % zv.cells.size = b := by rw [hzs, Nat.add_comm, Nat.mul_comm, Nat.add_mul_mod_self_left, Nat.mod_eq_of_lt hbz]
        have hrg : (Array.range (m.toNat * i.size))[a * E.S.sz e + b]? = some (a * E.S.sz e + b) := by rw [Array.getElem?_range, if_pos hlt]
        simp only [madeCells, Array.getElem?_map, hrg, Option.map_some, hmod]
        rw [← hu, Array.getElem?_toList, getElem!_pos zv.cells b (by omega), Array.getElem?_eq_getElem (by omega)]
      · cases hy)
  rw [List.length_replicate] at this
  exact this

/-! ### conversions -/
theorem foldl_push : ∀ (ns : List Int) (s : ByteArray), ns.foldl (fun r n => r.push (UInt8.ofNat n.toNat)) s = ⟨s.data ++ (ns.map fun n => UInt8.ofNat n.toNat).toArray⟩
  | [], s => by simp
  | n :: ns, s => by
    rw [List.foldl_cons, foldl_push ns]
    congr 1
    apply Array.ext'
    simp [ByteArray.push]
theorem toB_ok (hE : EnvOk P E) {l : List (E.S.K E.S.u8)} {vs : List Value} (h : Vals E.S Fz w E.S.u8 l vs) (hvs : ∀ v ∈ vs, ∃ n, v = .int .u8 n) : ∃ ns : List Int, vs = ns.map (Value.int .u8) ∧ E.S.toB l = ns.foldl (fun r n => r.push (UInt8.ofNat n.toNat)) ByteArray.empty := by
  have hns : ∃ ns : List Int, vs = ns.map (Value.int .u8) := by
    clear h
    induction vs with
    | nil => exact ⟨[], rfl⟩
    | cons v vs ih =>
      obtain ⟨n, rfl⟩ := hvs v (by simp)
      obtain ⟨ns, rfl⟩ := ih (fun v hv => hvs v (List.mem_cons_of_mem _ hv))
      exact ⟨n :: ns, rfl⟩
  obtain ⟨ns, rfl⟩ := hns
  refine ⟨ns, rfl, ?_⟩
  have hlen := h.len
  rw [hE.u8sz, Nat.mul_one, List.length_map] at hlen
  rw [hE.toB l ns (fun i x hx => ?_) hlen, foldl_push]
  · congr 1
    apply Array.ext'
    simp
  · have hil := (List.getElem?_eq_some_iff.1 hx).1
    have hsz := E.S.enc_length E.S.u8 x
    rw [hE.u8sz] at hsz
    obtain ⟨c, hc⟩ : ∃ c, E.S.enc E.S.u8 x = [c] := by
      match hq : E.S.enc E.S.u8 x, hsz with
      | [c], _ => exact ⟨c, rfl⟩
    obtain ⟨u, hu, ht⟩ := h.get (j := 0) hx (by rw [hc]; rfl)
    rw [hE.u8sz, Nat.mul_one, Nat.add_zero, List.getElem?_map] at hu
    cases hn : ns[i]? with
    | none => rw [hn] at hu; cases hu
    | some n =>
      rw [hn] at hu
      simp only [Option.map_some, Option.some.injEq] at hu
      subst hu
      refine ⟨n, rfl, ?_⟩
      rw [hc]
      cases ht; rfl

theorem bytesWorld_chg (w : World) (e : TypeId) (s : ByteArray) : Chg (fun _ _ => False) w (bytesWorld w e s) := by
  have hb : ∀ k, k < w.heap.size → (bytesWorld w e s).heap[k]? = w.heap[k]? := fun k hk => bytesWorld_at_old w e s k hk
  refine ⟨?_, ?_, ?_, by rw [bytesWorld_size]; omega, fun k o hk _ => ⟨World.cell?_of_block (hb k hk), World.frozen?_of_block (hb k hk)⟩, fun k hk _ => hb k hk, fun k hk => shape_of_block (hb k hk)⟩ <;>
    simp [bytesWorld, World.freeze, World.alloc, World.drew, -World.alloc_eq, -World.drew_eq]

theorem dConvert_ok (hE : EnvOk P E) (hR : Rel E.S (fun i => i < st.nx) φ Fz st.heap w) {s d : TypeId} {sd dd : TD} (hs : E.tt s = some sd) (hd : E.tt d = some dd) {x : Cell E.S.K} {v : Value} (hx : CRep E.S (fun i => i < st.nx) φ Fz w x v) {k : Kn E R} {r : R}
    (h : dConvert E st sd dd x k = some r) {next : Value → World → Prop} (hG : Goal E.S φ Fz st w k r next) : ∃ u w', (convert s d v).run P w = .ok u w' ∧ next u w' := by
  obtain ⟨si, sdd, sz, hs1, hs2, _, _, _, _, _, _, hsk⟩ := (hE.tt s sd hs).ex
  obtain ⟨di, ddd, dz, hd1, hd2, _, _, _, _, _, _, hdk⟩ := (hE.tt d dd hd).ex
  unfold dConvert at h
  split at h
  · next i i' n hk =>
    rw [hk] at hdk
    simp only [KindOk] at hdk
    subst hdk
    rw [crep_int hx]
    exact ⟨_, w, by simp [convert, run_underlying hs2, run_underlying hd2, Conv.intToInt], hG _ _ _ _ _ _ h (After.refl hR) (TRep.int _ _)⟩
  · next str hk =>
    rw [hk] at hdk
    simp only [KindOk] at hdk
    subst hdk
    rw [crep_str hx]
    exact ⟨_, w, by simp [convert, run_underlying hs2, run_underlying hd2], hG _ _ _ _ _ _ h (After.refl hR) (TRep.str _)⟩
  · next e str hk =>
    rw [hk] at hdk
    simp only [KindOk] at hdk
    subst hdk
    cases hb : Nat.beq e E.S.u8 with
    | false => rw [hb] at h; cases h
    | true =>
      rw [hb] at h
      have := beq_yes hb
      subst this
      rw [crep_str hx]
      refine ⟨_, _, Go.Lib.run_convert_string_bytes w s d E.S.u8 str hs2 hd2 hE.u8, ?_⟩
      have hsz1 := hE.u8sz
      have hge := grownCap_ge w str.size 0 E.S.u8
      have hcs : (bytesCells w E.S.u8 str).size = grownCap w str.size 0 E.S.u8 := by
        simp only [bytesCells, Array.size_append, Array.size_map, Array.size_replicate]
        show str.size + _ = _
        omega
      obtain ⟨vs, h1, h2⟩ := vals_of (Fz := Fz) (w := w) (by omega : 0 < E.S.sz E.S.u8) (E.S.ofB str) (fun m u => ∃ b, str.data[m]? = some b ∧ u = .int .u8 b.toNat) (fun i x j c hx hc => by
        obtain ⟨b, hb, he⟩ := hE.ofB str i x hx
        rw [he] at hc
        cases j with
        | zero =>
          simp only [List.getElem?_cons_zero, Option.some.injEq] at hc
          subst hc
          exact ⟨.int .u8 b.toNat, ⟨b, by rw [hsz1]; simpa using hb, rfl⟩, .int _ _⟩
        | succ j => simp at hc)
      have := newVec_ok (w1 := w) (H := st.heap) hR (fun _ _ h => h) h hG (bytesWorld_chg w E.S.u8 str) (b := w.heap.size) (Nat.le_refl _) (cap := grownCap w str.size 0 E.S.u8) (bytesWorld_at_new w E.S.u8 str) (by rw [hE.ofB_len]; exact hge)
        (by rw [hcs, hsz1, Nat.mul_one]; exact Nat.le_refl _) (fun k hk => by rw [hcs]; rw [hsz1, Nat.mul_one] at hk; simp only; omega) h1 (fun m v hm => by
          obtain ⟨b, hb, rfl⟩ := h2 m v hm
          have hlt : m < str.data.size := (Array.getElem?_eq_some_iff.1 hb).1
          rw [bytesCells, Array.getElem?_append_left (by rw [Array.size_map]; exact hlt), Array.getElem?_map, hb]; rfl)
      rw [hE.ofB_len] at this
      exact this
  · next hk hns =>
    rw [hk] at hdk
    simp only [KindOk] at hdk
    subst hdk
    split at h
    · next e hsk' =>
      rw [hsk'] at hsk
      simp only [KindOk] at hsk
      subst hsk
      cases hb : Nat.beq e E.S.u8 with
      | false => rw [hb] at h; cases h
      | true =>
        rw [hb] at h
        have := beq_yes hb
        subst this
        dsimp only [chk] at h
        have hconv : ∀ (q : Option Addr) (n c : Nat), (convert s d (.slice q n c)).run P w = (Conv.bytesToString (.slice q n c)).run P w := fun q n c => by
          simp [convert, run_underlying hs2, run_underlying hd2, run_underlying hE.u8]
        split at h
        · have hv : v = .slice none 0 0 := hx
          subst hv
          exact ⟨_, w, by rw [hconv]; simp [Conv.bytesToString], hG _ _ _ _ _ _ h (After.refl hR) (TRep.str _)⟩
        · split at h
          · next l hl =>
            obtain ⟨vs, hsrc⟩ := elems_ok hE hR (by rw [hE.u8sz]; omega) hl hx
            have hvs : ∀ v ∈ vs, ∃ n, v = .int .u8 n := by
              intro u hu
              obtain ⟨m, hm⟩ := List.mem_iff_getElem?.1 hu
              have hlen := hsrc.vals.len
              rw [hE.u8sz, Nat.mul_one] at hlen
              have hml := (List.getElem?_eq_some_iff.1 hm).1
              have hx0 : l[m]? = some (l[m]'(by omega)) := List.getElem?_eq_getElem (by omega)
              have henc : ∀ y : E.S.K E.S.u8, ∃ n, E.S.enc E.S.u8 y = [.int .u8 n] := fun y => by
                unfold Sig.enc
                have hsh := hE.u8sh
                revert y
                generalize E.S.toT E.S.u8 = f
                revert f
                rw [hsh]
                intro f y
                exact ⟨f y, rfl⟩
              obtain ⟨n, hn⟩ := henc (l[m]'(by omega))
              obtain ⟨u', hu', ht⟩ := hsrc.vals.get (j := 0) hx0 (by rw [hn]; rfl)
              rw [hE.u8sz, Nat.mul_one, Nat.add_zero, hm] at hu'
              cases hu'
              cases ht
              exact ⟨n, rfl⟩
            obtain ⟨ns, hns, htoB⟩ := toB_ok hE hsrc.vals hvs
            have hform : ∃ q n c, v = .slice q n c := by
              unfold elems at hl
              split at hl
              · have hx' : TRep E.S Fz w _ v := hx
                cases hx'; exact ⟨_, _, _, rfl⟩
              · exact ⟨_, _, _, hx.2⟩
              · obtain ⟨_, _, _, _, q, rfl, _⟩ := hx; exact ⟨_, _, _, rfl⟩
              · exact absurd rfl (hns _)
              · cases hl
            obtain ⟨q, n, c, rfl⟩ := hform
            have hl2 := hsrc.len w
            simp [Builtin.lenOf] at hl2
            refine ⟨.string (E.S.toB l), w, ?_, hG _ _ _ _ _ _ h (After.refl hR) (TRep.str _)⟩
            rw [hconv]
            have hf := hsrc.first w l.length rfl (Nat.le_refl _)
            have hlen := hsrc.vals.len
            rw [hE.u8sz, Nat.mul_one] at hlen hf
            rw [List.take_of_length_le (by omega)] at hf
            cases q with
            | none =>
              simp [Builtin.firstCells] at hf
              have : ns = [] := by
                have : vs = [] := by simpa using hf.symm
                rw [this] at hns
                cases ns with | nil => rfl | cons _ _ => cases hns
              rw [htoB, this]
              simp [Conv.bytesToString]
            | some ad =>
              have hf' : (loadCells ad n).run P w = .ok (ns.map (Value.int .u8)).toArray w := by
                rw [← hns, hl2]
                simpa [Builtin.firstCells] using hf
              rw [htoB]
              exact run_bytesToString w ad n c ns hf'
          · cases h
    · cases h
  · cases h
end
end Go.Ve

namespace Go.Ve
open Go.RowKit Go.Lib
set_option linter.unusedVariables false
set_option linter.unusedSimpArgs false

section
variable {P : Program} {E : Env} {R : Type} {φ : Nat → Loc} {Fz : Nat → Prop} {st : St E.S.K} {w : World}

theorem vec_write (hR : Rel E.S (fun i => i < st.nx) φ Fz st.heap w) {id e : Nat} {l0 l' : List (E.S.K e)} (hg : get st.heap id = some (.vec true e l0)) {vs : List Value} (hv : Vals E.S Fz w e l' vs) (hsz : 0 < E.S.sz e) {p : Nat} (hp : p + l'.length ≤ l0.length) (hc0 : (φ id).cap ≠ 0) :
    ∃ w', (storeCells ⟨(φ id).b, (φ id).o + p * E.S.sz e, none⟩ vs).run P w = .ok () w' ∧ After E.S φ Fz st w φ Fz { st with heap := put st.heap id (.vec true e (putAt l0 p l')) } w' := by
  obtain ⟨hl, hs, hcap, hsh, hr⟩ := hR.rep _ _ hg
  obtain ⟨haddr, _, cur, el, fz, hh, hel, hsize, hun, hcells⟩ := hr hc0
  have hun := hun rfl
  have hvl := hv.len
  have hle : (p + l'.length) * E.S.sz e ≤ (φ id).cap * E.S.sz e := Nat.mul_le_mul_right _ (by clear hcells; omega)
  rw [Nat.add_mul] at hle
  have hpre : ∀ j, j < vs.length → (∃ u, w.cell? ⟨(φ id).b, (φ id).o + p * E.S.sz e + j, none⟩ = some u) ∧ w.frozen? ⟨(φ id).b, (φ id).o + p * E.S.sz e + j, none⟩ = false := fun j hj => by
    refine ⟨⟨cur[(φ id).o + p * E.S.sz e + j]'(by clear hcells; omega), by rw [cell_at hh, Array.getElem?_eq_getElem]⟩, ?_⟩
    have := hun ((φ id).o + p * E.S.sz e + j) (by clear hcells; omega) (by clear hcells; omega)
    simp only [World.frozen?, hh]
    simp
    omega
  obtain ⟨w', hrun, hC, hnew, hblk⟩ := store_run (P := P) hv.one hpre
  obtain ⟨nw, hnw, hnws, hnwg⟩ := hblk cur el fz hh
  refine ⟨w', hrun, ?_⟩
  have hOfz : ∀ (k o : Nat), (k = (φ id).b ∧ (φ id).o + p * E.S.sz e ≤ o ∧ o < (φ id).o + p * E.S.sz e + vs.length) → ¬ Fz k := fun k o hk => hR.fz id _ hg rfl k o ⟨hc0, hk.1⟩
  have hputl : (putAt l0 p l').length = l0.length := by unfold putAt; simp; omega
  refine After.put hR hg rfl rfl (hC.mono fun k o _ hk => ⟨hc0, hk.1⟩) (fun k o => Iff.rfl) ⟨by rw [hl, hputl], hs, by rw [hputl]; exact hcap, fun ad had => (by rw [haddr] at had; cases had; unfold World.shape?; rw [hnw]; rfl), fun _ => ⟨haddr, (fun h => by cases h), nw, el, fz, hnw, hel, by rw [hnws]; exact hsize, fun _ => hun, fun i x j c hx hc => ?_⟩⟩
  have hjs : j < E.S.sz e := by have := (List.getElem?_eq_some_iff.1 hc).1; rw [E.S.enc_length] at this; exact this
  rw [hnwg]
  unfold putAt at hx
  rw [← List.append_assoc, splice_get _ _ _ _ hp] at hx
  by_cases hin : p ≤ i ∧ i < p + l'.length
  · rw [if_pos hin] at hx
    obtain ⟨u, hu, ht⟩ := hv.get hx hc
    refine ⟨u, ?_, ht.keep hC hOfz (fun _ h => h)⟩
    have e1 : i * E.S.sz e = p * E.S.sz e + (i - p) * E.S.sz e := by rw [← Nat.add_mul]; congr 1; omega
    have e2 := (List.getElem?_eq_some_iff.1 hu).1
    rw [if_pos (by rw [e1]; omega), show (φ id).o + (i * E.S.sz e + j) - ((φ id).o + p * E.S.sz e) = (i - p) * E.S.sz e + j by rw [e1]; omega]
    exact hu
  · rw [if_neg hin] at hx
    obtain ⟨u, hu, ht⟩ := hcells i x j c hx hc
    refine ⟨u, ?_, ht.keep hC hOfz (fun _ h => h)⟩
    rw [if_neg ?_]
    · exact hu
    · rintro ⟨h1, h2⟩
      rcases Nat.lt_or_ge i p with hlt | hge
      · have : (i + 1) * E.S.sz e ≤ p * E.S.sz e := Nat.mul_le_mul_right _ hlt
        rw [Nat.add_mul, Nat.one_mul] at this
        omega
      · have : (p + l'.length) * E.S.sz e ≤ i * E.S.sz e := Nat.mul_le_mul_right _ (by omega)
        rw [Nat.add_mul] at this
        omega

theorem run_copy {t u ty e : TypeId} {i : TypeInfo} (ht : P.underlying t = some (.slice e)) (hi : P.info? e = some i) {ts : Array TypeId} (hts : ts[0]? = some t) {base : Option Addr} {dLen dCap n : Nat} {x : Value} {vs : List Value} (hlen : (Builtin.lenOf x).run P w = .ok n w)
    (hf : (Builtin.firstCells i.size (Nat.min n dLen) x).run P w = .ok vs.toArray w) {w' : World} (hst : (match base with | some a => (storeCells a vs).run P w | none => .ok () w) = .ok () w') :
    (Builtin.copy_ ts ty #[.slice base dLen dCap, x]).run P w = .ok (.int .i64 (Nat.min n dLen : Nat)) w' := by
  cases base with
  | none =>
    simp only [Result.ok.injEq, true_and] at hst
    subst hst
    simp [Builtin.copy_, hts, run_underlying ht, hlen, sizeOf, typeInfo, hi, hf, goInt]
  | some a => simp [Builtin.copy_, hts, run_underlying ht, hlen, sizeOf, typeInfo, hi, hf, hst, goInt]

theorem putAt_nil {α : Type} (l : List α) (p : Nat) : putAt l p [] = l := by unfold putAt; simp
theorem put_same {α : Type} (t : Nat) (v : α) : ∀ (l : List (Nat × α)), get l t = some v → ∀ t', get (put l t v) t' = get l t' := fun l h t' => by
  rw [get_put]; split
  · next he => rw [he]; exact h.symm
  · rfl

theorem Rel.congr {D : Nat → Prop} {H H' : List (Nat × Blk E.S.K)} (h : ∀ t, get H' t = get H t) (hR : Rel E.S D φ Fz H w) : Rel E.S D φ Fz H' w :=
  ⟨fun id b hg => hR.dom id b (by rw [← h]; exact hg), fun id b hg => hR.rep id b (by rw [← h]; exact hg), fun id id' b b' hg hg' => hR.dis id id' b b' (by rw [← h]; exact hg) (by rw [← h]; exact hg'), fun id b hg => hR.fz id b (by rw [← h]; exact hg), hR.lt, hR.inv⟩

theorem dCopy_ok (hE : EnvOk P E) (hR : Rel E.S (fun i => i < st.nx) φ Fz st.heap w) {t ty : TypeId} {ts : Array TypeId} (hts : ts[0]? = some t) {e : Nat} (ht : sliceOf E t = some e) {d x : Cell E.S.K} {dv xv : Value} (hd : CRep E.S (fun i => i < st.nx) φ Fz w d dv) (hx : CRep E.S (fun i => i < st.nx) φ Fz w x xv)
    {k : Kn E R} {r : R} (h : dCopy E st e d x k = some r) {next : Value → World → Prop} (hG : Goal E.S φ Fz st w k r next) : ∃ u w', (Builtin.copy_ ts ty #[dv, xv]).run P w = .ok u w' ∧ next u w' := by
  obtain ⟨hund, i, z, ed, _, hi, hsize, _, _, _, _, _, _, hsz⟩ := hE.sliceOf ht
  have core : ∀ {id p : Nat} {l0 l : List (E.S.K e)} {dLen dCap : Nat} {base : Option Addr}, get st.heap id = some (.vec true e l0) → elems E st e x = some l → p + dLen ≤ l0.length → (0 < dLen → base = some ⟨(φ id).b, (φ id).o + p * E.S.sz e, none⟩) →
      k (.v (.c (.int .i64 (min l.length dLen : Nat)))) { st with heap := put st.heap id (.vec true e (putAt l0 p (l.take dLen))) } = some r → ∃ u w', (Builtin.copy_ ts ty #[.slice base dLen dCap, xv]).run P w = .ok u w' ∧ next u w' := by
    intro id p l0 l dLen dCap base hg hl hp hbase hk
    obtain ⟨vs, hsrc⟩ := elems_ok hE hR hsz hl hx
    have hB := hR.rep _ _ hg
    have hcap : dLen ≠ 0 → (φ id).cap ≠ 0 := fun h0 => by have := hB.1; have := hB.2.2.1; omega
    have htake : l.take dLen = l.take (min l.length dLen) := by
      rcases Nat.le_total l.length dLen with h | h
      · rw [Nat.min_eq_left h, List.take_of_length_le h, List.take_of_length_le (Nat.le_refl _)]
      · rw [Nat.min_eq_right h]
    have hf := hsrc.first w (min l.length dLen) rfl (Nat.min_le_left _ _)
    have hv := hsrc.vals.take (min l.length dLen)
    rw [← htake] at hv
    by_cases h0 : (l.take dLen) = []
    · rw [h0] at hv hk
      have hvl := hv.len
      have hvs : vs.take (min l.length dLen * E.S.sz e) = [] := List.eq_nil_of_length_eq_zero (by simpa using hvl)
      rw [hvs] at hf
      refine ⟨_, w, run_copy (u := t) hund hi hts (hsrc.len w) (by rw [hsize]; exact hf) (by cases base <;> simp [storeCells]), ?_⟩
      refine hG _ _ φ Fz _ _ hk ⟨hR.congr (put_same id (.vec true e (putAt l0 p [])) st.heap (by rw [putAt_nil]; exact hg)), Nat.le_refl _, rfl, fun _ _ => rfl, fun _ h => h, fun _ h => .inl h, fun k o hO => .inl ?_, Chg.refl _ _⟩ (TRep.int _ _)
      obtain ⟨j, b, hj, ho, hc⟩ := hO
      exact ⟨j, b, by rw [← put_same id (.vec true e (putAt l0 p [])) st.heap (by rw [putAt_nil]; exact hg)]; exact hj, ho, hc⟩
    · have hd0 : 0 < dLen := by
        rcases Nat.eq_zero_or_pos dLen with h | h
        · subst h; simp at h0
        · exact h
      obtain ⟨w', hrun, hA⟩ := vec_write (P := P) hR hg hv hsz (p := p) (by rw [List.length_take]; omega) (hcap (by omega))
      refine ⟨_, w', run_copy (u := t) hund hi hts (hsrc.len w) (by rw [hsize]; exact hf) (by rw [hbase hd0]; exact hrun), hG _ _ _ _ _ _ hk hA (TRep.int _ _)⟩
  unfold dCopy at h
  split at h
  · next id =>
    split at h
    · next e0 l0 hg =>
      cases hb : Nat.beq e0 e with
      | false => rw [hb] at h; cases h
      | true =>
        rw [hb] at h
        have := beq_yes hb
        subst this
        dsimp only [chk] at h
        split at h
        · next l hl =>
          obtain ⟨_, rfl⟩ := hd
          have hB := hR.rep _ _ hg
          have hlen := hB.1
          have := core (id := id) (p := 0) (l0 := l0) (l := l) (dLen := (φ id).len) (dCap := (φ id).cap) (base := (φ id).addr) hg hl (by omega) (fun h0 => by
            have := (hB.2.2.2.2 (by have := hB.2.2.1; omega)).1
            rw [Nat.zero_mul, Nat.add_zero]; exact this) (by rw [hlen]; exact h)
          exact this
        · cases h
    · cases h
  · next id lo hi' =>
    split at h
    · next e0 l0 hg =>
      cases hb : Nat.beq e0 e with
      | false => rw [hb] at h; cases h
      | true =>
        rw [hb] at h
        have := beq_yes hb
        subst this
        dsimp only [chk] at h
        split at h
        · next l hl =>
          obtain ⟨_, h1, h2, h3, q, rfl, hq⟩ := hd
          have hB := hR.rep _ _ hg
          have hlen := hB.1
          exact core (id := id) (p := lo) (l0 := l0) (l := l) (dLen := hi' - lo) (dCap := (φ id).cap - lo) (base := q) hg hl (by omega) (fun h0 => by
            have hne : (φ id).cap ≠ lo := by clear hq; omega
            have hn0 : (φ id).cap ≠ 0 := by clear hq; omega
            rw [hq.1 hne, (hB.2.2.2.2 hn0).1, hB.2.1, Option.map_some, add_lit]) h
        · cases h
    · cases h
  · cases h

theorem run_clear {t ty e : TypeId} {i : TypeInfo} {zv : Value} (ht : P.underlying t = some (.slice e)) (hi : P.info? e = some i) (hz : i.zero = some zv) {ts : Array TypeId} (hts : ts[0]? = some t) {base : Option Addr} {n cap : Nat} {w' : World}
    (hst : n ≠ 0 → ∃ a, base = some a ∧ (storeCells a (Builtin.zeroCells zv.cells n).toList).run P w = .ok () w') (h0 : n = 0 → w' = w) :
    (Builtin.clear_ ts ty #[.slice base n cap]).run P w = .ok (.tuple #[]) w' := by
  cases n with
  | zero =>
    rw [h0 rfl]
    cases base <;> simp [Builtin.clear_, hts, run_underlying ht]
  | succ n =>
    obtain ⟨a, rfl, h⟩ := hst (by omega)
    simp [Builtin.clear_, hts, run_underlying ht, zeroValue, typeInfo, hi, hz, h]
theorem zeroCells_get (z : Array Value) (n i j : Nat) (hi : i < n) (hj : j < z.size) : (Builtin.zeroCells z n)[i * z.size + j]? = z[j]? := by
  have hlt : i * z.size + j < n * z.size := by
    have : (i + 1) * z.size ≤ n * z.size := Nat.mul_le_mul_right _ (by omega)
    rw [Nat.add_mul, Nat.one_mul] at this
    omega
  have hmod : (i * z.size + j) % z.size = j := by rw [Nat.add_comm, Nat.mul_comm, Nat.add_mul_mod_self_left, Nat.mod_eq_of_lt hj]
  have hr : (Array.range (n * z.size))[i * z.size + j]? = some (i * z.size + j) := by rw [Array.getElem?_range, if_pos hlt]
  simp only [Builtin.zeroCells, Array.getElem?_map, hr, Option.map_some, hmod]
  rw [getElem!_pos z j hj, Array.getElem?_eq_getElem hj]
theorem zeroCells_size (z : Array Value) (n : Nat) : (Builtin.zeroCells z n).size = n * z.size := by simp [Builtin.zeroCells]
theorem dClear_ok (hE : EnvOk P E) (hR : Rel E.S (fun i => i < st.nx) φ Fz st.heap w) {t ty : TypeId} {ts : Array TypeId} (hts : ts[0]? = some t) {e : Nat} (ht : sliceOf E t = some e) {ed : TD} (hed : E.tt e = some ed) {z : List (Cell E.S.K)} (hz : ofValues ed.zero = some z) {d : Cell E.S.K} {dv : Value} (hd : CRep E.S (fun i => i < st.nx) φ Fz w d dv)
    {k : Kn E R} {r : R} (h : dClear E st e z d k = some r) {next : Value → World → Prop} (hG : Goal E.S φ Fz st w k r next) : ∃ u w', (Builtin.clear_ ts ty #[dv]).run P w = .ok u w' ∧ next u w' := by
  obtain ⟨hund, i, zv, ed', hed', hi, hsize, _, hbytes, hb0, hzi, hzc, hzl, hsz⟩ := hE.sliceOf ht
  rw [hed] at hed'; cases hed'
  have hzs : zv.cells.size = E.S.sz e := by rw [← hzl, ← hzc, Array.length_toList]
  have core : ∀ {id p : Nat} {l0 : List (E.S.K e)} {x : E.S.K e} {dLen dCap : Nat} {base : Option Addr}, get st.heap id = some (.vec true e l0) → asRow E st e z = some (x, []) → p + dLen ≤ l0.length → (0 < dLen → base = some ⟨(φ id).b, (φ id).o + p * E.S.sz e, none⟩) →
      k (.t []) { st with heap := put st.heap id (.vec true e (putAt l0 p (List.replicate dLen x))) } = some r → ∃ u w', (Builtin.clear_ ts ty #[.slice base dLen dCap]).run P w = .ok u w' ∧ next u w' := by
    intro id p l0 x dLen dCap base hg hx hp hbase hk
    have hB := hR.rep _ _ hg
    have hcap : dLen ≠ 0 → (φ id).cap ≠ 0 := fun h0 => by have := hB.1; have := hB.2.2.1; omega
    have ht0 : ∀ w' : World, SRep E.S (fun i => i < st.nx) φ Fz w' (.t []) (.tuple #[]) := fun _ => ⟨[], rfl, .nil⟩
    by_cases h0 : dLen = 0
    · subst h0
      refine ⟨_, w, run_clear hund hi hzi hts (fun h => absurd rfl h) (fun _ => rfl), ?_⟩
      rw [List.replicate_zero] at hk
      refine hG _ _ φ Fz _ _ hk ⟨hR.congr (put_same id (.vec true e (putAt l0 p [])) st.heap (by rw [putAt_nil]; exact hg)), Nat.le_refl _, rfl, fun _ _ => rfl, fun _ h => h, fun _ h => .inl h, fun k o hO => .inl ?_, Chg.refl _ _⟩ (ht0 _)
      obtain ⟨j, b, hj, ho, hc⟩ := hO
      exact ⟨j, b, by rw [← put_same id (.vec true e (putAt l0 p [])) st.heap (by rw [putAt_nil]; exact hg)]; exact hj, ho, hc⟩
    · have hrow := asRow_ok hR hx (vs := zv.cells.toList) (by rw [hzc]; exact ofValues_ok hz)
      obtain ⟨vv, hv1, hv2⟩ := vals_rows (w := w) (Fz' := FzA φ Fz st.heap w []) (l := List.replicate dLen x) hsz (cur := Builtin.zeroCells zv.cells dLen) (fun _ => zv.cells.toList) (fun q y hy => by
          rw [List.getElem?_replicate] at hy
          split at hy
          · cases hy; exact hrow
          · cases hy) (fun a b ha hbz => by
          rw [List.length_replicate] at ha
          rw [← hzs] at hbz ⊢
          rw [zeroCells_get _ _ _ _ ha hbz, Array.getElem?_toList])
      have hv1' : Vals E.S Fz w e (List.replicate dLen x) vv := forall₂_imp (fun _ _ h => TRep.fz (fun k hk => FzA.nil hk) h) hv1
      have hlen := hv1'.len
      rw [List.length_replicate] at hlen
      have hvv : (Builtin.zeroCells zv.cells dLen).toList = vv := by
        refine (List.ext_getElem? fun m => ?_).symm
        rw [Array.getElem?_toList (xs := Builtin.zeroCells zv.cells dLen)]
        rcases Nat.lt_or_ge m vv.length with hm | hm
        · rw [List.getElem?_eq_getElem hm, hv2 m _ (List.getElem?_eq_getElem hm)]
        · rw [List.getElem?_eq_none hm, Array.getElem?_eq_none (by rw [zeroCells_size, hzs]; omega)]
      obtain ⟨w', hrun, hA⟩ := vec_write (P := P) hR hg hv1' hsz (p := p) (by rw [List.length_replicate]; omega) (hcap h0)
      refine ⟨_, w', run_clear hund hi hzi hts (fun _ => ⟨_, hbase (by omega), by rw [hvv]; exact hrun⟩) (fun h => absurd h h0), hG _ _ _ _ _ _ hk hA ⟨[], rfl, .nil⟩⟩
  unfold dClear at h
  split at h
  · next id =>
    split at h
    · next e0 l0 hg =>
      cases hb : Nat.beq e0 e with
      | false => rw [hb] at h; cases h
      | true =>
        rw [hb] at h
        have := beq_yes hb
        subst this
        dsimp only [chk] at h
        split at h
        · next x hx =>
          obtain ⟨_, rfl⟩ := hd
          have hB := hR.rep _ _ hg
          have hlen := hB.1
          have := core (id := id) (p := 0) (l0 := l0) (x := x) (dLen := (φ id).len) (dCap := (φ id).cap) (base := (φ id).addr) hg hx (by omega) (fun h0 => by
            have := (hB.2.2.2.2 (by have := hB.2.2.1; omega)).1
            rw [Nat.zero_mul, Nat.add_zero]; exact this) (by rw [hlen]; exact h)
          exact this
        · cases h
    · cases h
  · next id lo hi' =>
    split at h
    · next e0 l0 hg =>
      cases hb : Nat.beq e0 e with
      | false => rw [hb] at h; cases h
      | true =>
        rw [hb] at h
        have := beq_yes hb
        subst this
        dsimp only [chk] at h
        split at h
        · next x hx =>
          obtain ⟨_, h1, h2, h3, q, rfl, hq⟩ := hd
          have hB := hR.rep _ _ hg
          have hlen := hB.1
          exact core (id := id) (p := lo) (l0 := l0) (x := x) (dLen := hi' - lo) (dCap := (φ id).cap - lo) (base := q) hg hx (by omega) (fun h0 => by
            have hne : (φ id).cap ≠ lo := by clear hq; omega
            have hn0 : (φ id).cap ≠ 0 := by clear hq; omega
            rw [hq.1 hne, (hB.2.2.2.2 hn0).1, hB.2.1, Option.map_some, add_lit]) h
        · cases h
    · cases h
  · cases h
/-! ### equality of structs -/
theorem eqV_ok {D : Nat → Prop} {x y : Cell E.S.K} {b : Bool} (h : eqCell x y = some b) {vx vy : Value} (hx : CRep E.S D φ Fz w x vx) (hy : CRep E.S D φ Fz w y vy) : eqV vx vy = some b := by
  unfold eqCell at h
  split at h
  · next k n k' m =>
    cases hb : beqKind k k' with
    | false => rw [hb] at h; cases h
    | true => rw [hb] at h; rw [crep_int hx, crep_int hy]; simp only [eqV, hb, cond_true]; exact h
  · rw [crep_bool hx, crep_bool hy]; exact h
  · rw [crep_bool hx, crep_lit hy]; exact h
  · rw [crep_lit hx, crep_bool hy]; exact h
  · rw [crep_lit hx, crep_lit hy]; exact h
  · rw [crep_str hx, crep_str hy]; exact h
  · cases h
theorem eqVs_ok {D : Nat → Prop} : ∀ {xs ys : List (Cell E.S.K)} {b : Bool}, eqCells xs ys = some b → ∀ {vx vy : List Value}, All2 (CRep E.S D φ Fz w) xs vx → All2 (CRep E.S D φ Fz w) ys vy → eqVs vx vy = some b
  | [], [], b, h, _, _, .nil, .nil => h
  | [x], [y], b, h, _, _, .cons hx .nil, .cons hy .nil => eqV_ok h hx hy
  | x :: x2 :: xs, y :: ys, b, h, _, _, .cons hx (.cons hx2 htx), .cons hy hty => by
    simp only [eqCells] at h
    split at h
    · next b1 b2 h1 h2 =>
      cases h
      have e1 := eqV_ok h1 hx hy
      have e2 := eqVs_ok h2 (.cons hx2 htx) hty
      cases hty with
      | nil => simp [eqVs] at e2
      | cons hy2 hty2 => simp only [eqVs, e1, e2]
    · cases h
  | [x], y :: y2 :: ys, b, h, _, _, .cons hx .nil, .cons hy (.cons hy2 hty) => by
    simp only [eqCells] at h
    split at h
    · next b1 b2 h1 h2 => simp [eqCells] at h2
    · cases h
  | [], _ :: _, _, h, _, _, _, _ => by simp [eqCells] at h
  | [_], [], _, h, _, _, _, _ => by simp [eqCells] at h
  | _ :: _ :: _, [], _, h, _, _, _, _ => by simp [eqCells] at h

theorem capsOf_ok {a : Act} (hI : Inv E.S φ Fz st a.tmps w) : ∀ {os : List Operand} {cp : List (Nat × Nat)}, capsOf E st os = some cp → capsIn (fun i => i < st.nx) cp ∧ os.map a.eval = capVs φ cp
  | [], cp, h => by cases h; exact ⟨trivial, rfl⟩
  | o :: os, cp, h => by
    simp only [capsOf] at h
    split at h
    · next i off r h1 h2 =>
      cases h
      obtain ⟨g1, g2⟩ := capsOf_ok hI h2
      have := operandC_ok hI h1
      exact ⟨⟨this.1, g1⟩, by rw [List.map_cons, g2, this.2]; rfl⟩
    · cases h
end
end Go.Ve

namespace Go.Ve
open Go.RowKit Go.Lib
set_option linter.unusedVariables false
set_option linter.unusedSimpArgs false

section
variable {P : Program} {E : Env} {R : Type} {φ : Nat → Loc} {Fz : Nat → Prop} {st : St E.S.K} {w : World}

theorem run_v {s : Sem Value} {x : Value} {w' : World} (h : s.run P w = .ok x w') : ((do pure (Next.value (← s))) : Sem Next).run P w = .ok (.value x) w' := by simp [h]
theorem run_u {s : Sem Unit} {w' : World} (h : s.run P w = .ok () w') : ((do s; pure Next.skip) : Sem Next).run P w = .ok .skip w' := by simp [h]

theorem tyC_ok {S : Sig} {D : Nat → Prop} {φ : Nat → Loc} {Fz : Nat → Prop} {w : World} {t : TS} {c : Cell S.K} {v : Value} (h : tyC t c = true) (hv : CRep S D φ Fz w c v) : tyV t v := by
  unfold tyC at h
  split at h
  · next k k' n =>
    have hk : k = k' := by cases k <;> cases k' <;> first | rfl | cases h
    have hv' : TRep _ _ _ _ _ := hv
    cases hv'
    exact ⟨_, by rw [hk]⟩
  · have hv' : TRep _ _ _ _ _ := hv
    cases hv'; exact ⟨_, rfl⟩
  · have hv' : TRep _ _ _ _ _ := hv
    cases hv'; exact ⟨_, rfl⟩
  · have hv' : TRep _ _ _ _ _ := hv
    cases hv'; exact ⟨_, rfl⟩
  · cases h
theorem tysC_ok {S : Sig} {D : Nat → Prop} {φ : Nat → Loc} {Fz : Nat → Prop} {w : World} {ts : List TS} {cs : List (Cell S.K)} {vs : List Value} (h : tysC ts cs = true) (hv : All2 (CRep S D φ Fz w) cs vs) : All2 tyV ts vs := by
  induction hv generalizing ts with
  | nil => cases ts with
    | nil => exact .nil
    | cons _ _ => cases h
  | cons hx _ ih =>
    cases ts with
    | nil => cases h
    | cons t ts =>
      simp only [tysC, Bool.and_eq_true] at h
      exact .cons (tyC_ok h.1 hx) (ih h.2)
theorem wp_v {o : Oper} {a : Act} {s : Sem Value} {x : Value} {w' : World} {next : Act → World → Prop} {Q : Exit → Act → World → Prop} (he : execOp a.eval o = (do pure (Next.value (← s)))) (h : s.run P w = .ok x w') (hn : next (a.put o.dst x) w') : o.wp P a w next Q :=
  wp_of_run (by rw [he]; exact run_v h) hn

theorem field_at {fields : Array Field} {fs : List (Nat × Nat × Nat)} (h : ∀ (j off ft sz : Nat), fs[j]? = some (off, ft, sz) → ∃ f i, fields[j]? = some f ∧ f.offset = off ∧ f.type = ft ∧ P.info? ft = some i ∧ i.size = sz) {j off ft sz : Nat} (hj : fs[j]? = some (off, ft, sz)) :
    ∃ f i, fields[j]? = some f ∧ f.offset = off ∧ f.type = ft ∧ P.info? ft = some i ∧ i.size = sz := h j off ft sz hj

theorem run_fieldAt {t : TypeId} {fields : Array Field} {j : Nat} {f : Field} {i : TypeInfo} (hu : P.underlying t = some (.struct fields)) (hf : fields[j]? = some f) (hi : P.info? f.type = some i) (hs : 1 ≤ i.size) (b o : Nat) :
    (Instr.fieldAt t (.pointer (some ⟨b, o, none⟩)) j).run P w = .ok (.pointer (some ⟨b, o + f.offset, none⟩)) w := by
  have hne : i.size ≠ 0 := by omega
  simp [Instr.fieldAt, run_underlying hu, hf, Instr.sureAddr, fieldPlace, sizeOf, typeInfo, hi, hne, add_lit]

theorem all2_single {D : Nat → Prop} {c : Cell E.S.K} {vs : List Value} (h : All2 (CRep E.S D φ Fz w) [c] vs) : ∃ v, vs = [v] ∧ CRep E.S D φ Fz w c v := by
  cases h with
  | cons h t => cases t; exact ⟨_, rfl, h⟩

set_option maxHeartbeats 2000000 in
/-- every operation but a call of a function -/
theorem dop_ok (hE : EnvOk P E) {a : Act} (hI : Inv E.S φ Fz st a.tmps w) {orc : Orc E} {site : Nat → Nat} {o : Oper} {k : Kn E R} {r : R} (hnc : ∀ f as_ ts, o.op ≠ .call { callee := .value f, args := as_, argTypes := ts })
    (h : dop E orc site st o k = some r) {next : Act → World → Prop} {Q : Exit → Act → World → Prop} (hG : Goal E.S φ Fz st w k r (fun x w' => next (a.put o.dst x) w')) : o.wp P a w next Q := by
  have hR := hI.rel
  have same : ∀ {v : SV E.S.K} {x : Value}, k v st = some r → SRep E.S (fun i => i < st.nx) φ Fz w v x → next (a.put o.dst x) w := fun hk hs => hG _ _ _ _ _ _ hk (After.refl hR) hs
  unfold dop at h
  split at h
  · next x heq =>
    split at h
    · next v hv => exact wp_of_run (x := a.eval x) (w' := w) (by simp only [execOp, heq]; rfl) (same h (operand_ok hI hv))
    · cases h
  · next x heq =>
    split at h
    · next v hv => exact wp_of_run (x := a.eval x) (w' := w) (by simp only [execOp, heq]; rfl) (same h (operand_ok hI hv))
    · cases h
  · next q x y heq =>
    split at h
    · next t va vb hq hx hy =>
      have hqv := crep_bool (operandC_ok hI hq)
      have hrun : (execOp a.eval o).run P w = .ok (.value (if t then a.eval x else a.eval y)) w := by
        simp only [execOp, heq, hqv, asBool]
        cases t <;> rfl
      unfold sif at h
      cases t with
      | true => exact wp_of_run hrun (same h (operand_ok hI hx))
      | false => exact wp_of_run hrun (same h (operand_ok hI hy))
    · next t va vb hq hx hy =>
      have hqv := crep_lit (operandC_ok hI hq)
      have hrun : (execOp a.eval o).run P w = .ok (.value (if t then a.eval x else a.eval y)) w := by
        simp only [execOp, heq, hqv, asBool]
        cases t <;> rfl
      cases t with
      | true => exact wp_of_run hrun (same h (operand_ok hI hx))
      | false => exact wp_of_run hrun (same h (operand_ok hI hy))
    · cases h
  · next t heq =>
    split at h
    · next td ht =>
      split at h
      · next z hz =>
        obtain ⟨i, d, zv, h1, _, _, _, _, h6, h7, _⟩ := (hE.tt t td ht).ex
        have hzz : All2 (CRep E.S (fun i => i < st.nx) φ Fz w) z zv.cells.toList := by rw [h7]; exact ofValues_ok hz
        refine wp_v (s := Instr.alloc t true (.tuple #[])) (by simp only [execOp, heq]) (x := .pointer (some ⟨w.heap.size, 0, none⟩)) (w' := w.alloc (.cells zv.cells t)) ?_ ?_
        · simp [Instr.alloc, zeroValue, typeInfo, h1, h6, Go.newVar, Go.newRow]
        · cases hbt : isBt E t with
          | false =>
            rw [hbt] at h
            have := newVar_ok hR hzz (by revert h; cases z <;> exact id) t hG
            simpa using this
          | true =>
            rw [hbt] at h
            unfold isBt at hbt
            split at hbt
            · next T hT =>
              have hTt := beq_yes hbt
              subst hTt
              split at h
              · next b =>
                generalize hl : zv.cells.toList = l at hzz
                cases hzz with
                | cons h1 h2 =>
                  cases h2 with
                  | cons h2 h3 =>
                    cases h3
                    have hv : zv.cells = #[_, _] := Array.toList_inj.1 hl
                    rw [show _ = Value.pointer none from h1] at hv
                    rw [hv]
                    exact newBt_ok hR h2 hT h hG
              · cases h
              · next hne => cases hne
            · cases hbt
      · cases h
    · cases h
  · next t x heq =>
    split at h
    · next v hv =>
      cases hf : full v.cells with
      | false => rw [hf] at h; cases h
      | true =>
        rw [hf] at h
        have hvv := cells_size (operandF_ok hI hv) hf
        refine wp_v (s := Instr.box t (a.eval x)) (by simp only [execOp, heq]) (x := .pointer (some ⟨w.heap.size, 0, none⟩)) (w' := w.alloc (.cells (a.eval x).cells t)) ?_ ?_
        · simp [Instr.box, Go.newVar, Go.newRow]
        · have := newVar_ok hR hvv h t hG
          simpa using this
    · cases h
  · next t parts heq =>
    split at h
    · next td ht =>
      split at h
      · next fs z ps hk hz hp =>
        split at h
        · next cs hf =>
          obtain ⟨res, h1, h2⟩ := build_ok hE ht hk hz (partsF_ok hI hp) hf
          refine wp_v (s := Instr.build t (parts.map fun (i, x) => (i, a.eval x))) (by simp only [execOp, heq]) (x := .agg res) (w' := w) ?_ (same h ⟨res.toList, by simp, h2⟩)
          rw [← h1]; congr 2
          apply Array.ext'; simp
        · cases h
      · next m e z ps hk hz hp =>
        split at h
        · next cs hf =>
          obtain ⟨res, h1, h2⟩ := buildA_ok hE ht hk hz (partsF_ok hI hp) hf
          refine wp_v (s := Instr.build t (parts.map fun (i, x) => (i, a.eval x))) (by simp only [execOp, heq]) (x := .agg res) (w' := w) ?_ (same h ⟨res.toList, by simp, h2⟩)
          rw [← h1]; congr 2
          apply Array.ext'; simp
        · cases h
      · cases h
    · cases h
  · next t n parts heq =>
    split at h
    · next e ps hs hp =>
      split at h
      · next ed hed =>
        split at h
        · next z hz =>
          cases hck : (Nat.ble (n * E.S.sz e) 16777216 && (parts.toList.all fun p => Nat.blt p.1 n) && nodupIds (parts.toList.map (·.1)) && ps.all fun p => full p.2.cells) with
          | false => rw [hck] at h; cases h
          | true =>
            rw [hck] at h
            simp only [Bool.and_eq_true] at hck
            obtain ⟨⟨⟨c1, c2⟩, c3⟩, c4⟩ := hck
            dsimp only [chk] at h
            split at h
            · split at h
              · next l ids hrows =>
                cases hid : nodupIds ids with
                | false => rw [hid] at h; cases h
                | true =>
                  rw [hid] at h
                  obtain ⟨v, w', g1, g2⟩ := buildSliceD_ok hE hR hs hed hz (partsF_ok hI hp) (Nat.le_of_ble_eq_true c1) (fun p hp => by
                    obtain ⟨q, hq, rfl⟩ := List.mem_map.1 hp
                    have := List.all_eq_true.1 c2 q hq
                    exact Nat.le_of_ble_eq_true this) (by rw [List.map_map]; exact c3) (fun p hp => List.all_eq_true.1 c4 p hp) hrows hid h hG
                  refine wp_v (s := Instr.buildSlice t n (parts.map fun (i, x) => (i, a.eval x))) (by simp only [execOp, heq]) ?_ g2
                  rw [← g1]; congr 2
                  apply Array.ext'; simp
              · cases h
            split at h
            · next l fr hrows =>
              obtain ⟨v, w', g1, g2⟩ := buildSlice_ok hE hR hs hed hz (partsF_ok hI hp) (Nat.le_of_ble_eq_true c1) (fun p hp => by
                obtain ⟨q, hq, rfl⟩ := List.mem_map.1 hp
                have := List.all_eq_true.1 c2 q hq
                exact Nat.le_of_ble_eq_true this) (by rw [List.map_map]; exact c3) (fun p hp => List.all_eq_true.1 c4 p hp) hrows h hG
              refine wp_v (s := Instr.buildSlice t n (parts.map fun (i, x) => (i, a.eval x))) (by simp only [execOp, heq]) ?_ g2
              rw [← g1]; congr 2
              apply Array.ext'; simp
            · cases h
        · cases h
      · cases h
    · cases h
  · next t p heq =>
    split at h
    · next td pc ht hp =>
      obtain ⟨i, d, zv, h1, h2, h3, _, h5, _⟩ := (hE.tt t td ht).ex
      unfold dLoad at h
      split at h
      · next hsp =>
        cases hag : !td.agg with
        | false => rw [hag] at h; cases h
        | true =>
          rw [hag] at h
          obtain ⟨b, oo, u, hpv, hn1, hcell, hn⟩ := dSplit_ok hR (operandC_ok hI hp) hsp h hG
          obtain ⟨_, l2⟩ := run_loadVar h1 h2 (w := w) (b := b) (o := oo) (vs := [u]) (by simp only [List.length_singleton]; omega) (fun j v hj => by
            cases j with
            | zero => simp only [List.getElem?_cons_zero, Option.some.injEq] at hj; subst hj; exact hcell
            | succ j => simp at hj)
          refine wp_v (s := Instr.loadAt t (a.eval p)) (by simp only [execOp, heq]) (w' := w) (x := u) ?_ hn
          rw [hpv]
          have := l2 (by rw [← h5]; simpa using hag) u rfl
          simp [Instr.loadAt, Instr.sureAddr, this]
      obtain ⟨b, oo, cs, vs, hpv, hk, hlen, hvs, hcell⟩ := rdPtr_ok hR (operandC_ok hI hp) h
      have hvl := hvs.len
      obtain ⟨l1, l2⟩ := run_loadVar h1 h2 (w := w) (b := b) (o := oo) (vs := vs) (by omega) hcell
      have hload : ∀ x, (loadVar t ⟨b, oo, none⟩).run P w = .ok x w → (Instr.loadAt t (a.eval p)).run P w = .ok x w := fun x hx => by
        rw [hpv]; simp [Instr.loadAt, Instr.sureAddr, hx]
      split at hk
      · next hag =>
        refine wp_v (s := Instr.loadAt t (a.eval p)) (by simp only [execOp, heq]) (hload _ (l1 (by rw [← h5]; exact hag))) (same hk ⟨vs, rfl, hvs⟩)
      · next hag =>
        split at hk
        · next c =>
          obtain ⟨v, rfl, hc⟩ := all2_single hvs
          exact wp_v (s := Instr.loadAt t (a.eval p)) (by simp only [execOp, heq]) (hload _ (l2 (by rw [← h5]; exact hag) v rfl)) (same hk hc)
        · cases hk
    · cases h
  · next t p x heq =>
    split at h
    · next td pc v ht hp hv =>
      cases hck : (Nat.beq v.cells.length td.size && full v.cells) with
      | false => rw [hck] at h; cases h
      | true =>
        rw [hck] at h
        simp only [Bool.and_eq_true] at hck
        obtain ⟨i, d, zv, h1, _, h3, _⟩ := (hE.tt t td ht).ex
        have hvv := cells_size (operandF_ok hI hv) hck.2
        have hvl := hvv.len
        have hts : (a.eval x).cells.toList.length = (a.eval x).cells.size := Array.length_toList
        have e1 := beq_yes hck.1
        obtain ⟨b, oo, w', hpv, hrun, hn⟩ := wrPtr_ok (P := P) hR hck.2 hvv (operandC_ok hI hp) h (next := fun x w' => next (a.put o.dst x) w') (fun st' φ' Fz' w' hk hA => hG _ _ _ _ _ _ hk hA ⟨[], rfl, .nil⟩)
        refine wp_of_skip (w' := w') ?_ hn
        simp only [execOp, heq]
        refine run_u ?_
        rw [hpv]
        have hsz : (a.eval x).cells.size = i.size := by omega
        simp [Instr.storeAt, Instr.sureAddr, storeVar, sizeOf, typeInfo, h1, hsz, hrun]
    · cases h
  · next x heq =>
    split at h
    · next i oo hc =>
      have hv := operandC_ok hI hc
      exact wp_of_run (x := a.eval x) (w' := w) (by simp only [execOp, heq]; rw [hv.2]; rfl) (same h hv)
    · next i j oo hc =>
      have hv := operandC_ok hI hc
      exact wp_of_run (x := a.eval x) (w' := w) (by simp only [execOp, heq]; rw [hv.2.2]; rfl) (same h hv)
    · next e v oo hc =>
      have hv := operandC_ok hI hc
      refine wp_of_run (x := a.eval x) (w' := w) ?_ (same h hv)
      obtain ⟨b, q, hv', _⟩ := hv
      simp only [execOp, heq]; rw [hv']; rfl
    · next f cp hc =>
      have hv := operandC_ok hI hc
      exact wp_of_run (x := a.eval x) (w' := w) (by simp only [execOp, heq]; rw [hv.2]; rfl) (same h hv)
    · cases h
  · next op t x y q heq =>
    split at h
    · next ca cb hx hy =>
      obtain ⟨c, u, h1, h2, h3⟩ := binCells_ok (P := P) hE (a := a) (D := fun i => i < st.nx) (operandF_ok hI hx) (operandF_ok hI hy) h
      exact wp_v (by simp only [execOp, heq]) h2 (same h1 h3)
    · next xs ys hx hy =>
      cases hq : E.eqs t with
      | none => rw [hq] at h; cases h
      | some ts =>
        rw [hq] at h
        dsimp only at h
        have hty : (tysC ts xs && tysC ts ys) = true := by
          cases ht : (tysC ts xs && tysC ts ys) with
          | true => rfl
          | false => rw [ht] at h; cases h
        rw [hty] at h
        dsimp only [chk] at h
        rw [Bool.and_eq_true] at hty
        obtain ⟨hgd, heqs⟩ := hE.eqs t ts hq
        obtain ⟨vx, hvx, hxx⟩ := operandF_ok hI hx
        obtain ⟨vy, hvy, hyy⟩ := operandF_ok hI hy
        have hguard : ∀ op', (eqGuard op' t x y (a.eval x) (a.eval y)).run P w = .ok () w := fun op' => by
          rw [hvx, hvy]
          unfold eqGuard
          cases op' <;> simp [hgd]
        split at h
        · next b hb =>
          have := heqs vx vy b w (tysC_ok hty.1 hxx) (tysC_ok hty.2 hyy) (eqVs_ok hb hxx hyy)
          refine wp_v (s := do eqGuard .eql t x y (a.eval x) (a.eval y); binOp .eql t (a.eval x) (a.eval y)) (by simp only [execOp, heq]) (x := .bool b) (w' := w) ?_ (same h (TRep.bool _))
          rw [Sem.run_bind, hguard]
          simp only [Result.andThen_ok]
          rw [hvx, hvy]
          simp [binOp, this]
        · next b hb =>
          have := heqs vx vy b w (tysC_ok hty.1 hxx) (tysC_ok hty.2 hyy) (eqVs_ok hb hxx hyy)
          refine wp_v (s := do eqGuard .neq t x y (a.eval x) (a.eval y); binOp .neq t (a.eval x) (a.eval y)) (by simp only [execOp, heq]) (x := .bool (!b)) (w' := w) ?_ (same h (TRep.bool _))
          rw [Sem.run_bind, hguard]
          simp only [Result.andThen_ok]
          rw [hvx, hvy]
          simp [binOp, this]
        · cases h
    · cases h
  · next op t x heq =>
    split at h
    · next c hc =>
      obtain ⟨c', u, h1, h2, h3⟩ := unCell_ok (P := P) (w := w) (a := a) (operandC_ok hI hc) h
      exact wp_v (by simp only [execOp, heq]) h2 (same h1 h3)
    · cases h
  · next s d x heq =>
    split at h
    · next sd dd c hs hd hc =>
      obtain ⟨u, w', h1, h2⟩ := dConvert_ok hE hR hs hd (operandC_ok hI hc) h hG
      exact wp_v (by simp only [execOp, heq]) h1 h2
    · cases h
  · next f first caps heq =>
    split at h
    · next cp hfst hc =>
      obtain ⟨h1, h2⟩ := capsOf_ok hI hc
      refine wp_v (s := Instr.makeFunc (.func f) (first.map a.eval) (caps.map a.eval)) (by simp only [execOp, heq]) (x := .func (.func f) #[] (capVs φ cp).toArray) (w' := w) ?_ (same h ⟨h1, rfl⟩)
      have : caps.map a.eval = (capVs φ cp).toArray := by apply Array.ext'; simpa using h2
      have hf : first.map a.eval = #[] := by apply Array.ext'; simp [hfst]
      rw [this, hf]; rfl
    · cases h
  · next t n m heq =>
    split at h
    · next e q n' q' m' hs hn hm =>
      split at h
      · next ed hed =>
        split at h
        · next z hz =>
          split at h
          · split at h
            · next x hx =>
              unfold sif at h
              split at h
              · next hb =>
                have e1 := crep_int (operandC_ok hI hn)
                have e2 := crep_int (operandC_ok hI hm)
                obtain ⟨v, w', h1, h2⟩ := makeSliceD_ok hE hR hs hed hz hx hb h hG
                exact wp_v (s := Instr.makeSlice t (a.eval n) (a.eval m)) (by simp only [execOp, heq]) (by rw [e1, e2]; exact h1) h2
              · cases h
            · cases h
          split at h
          · next x hx =>
            unfold sif at h
            split at h
            · next hb =>
              have e1 := crep_int (operandC_ok hI hn)
              have e2 := crep_int (operandC_ok hI hm)
              obtain ⟨v, w', h1, h2⟩ := makeSlice_ok hE hR hs hed hz hx hb h hG
              exact wp_v (s := Instr.makeSlice t (a.eval n) (a.eval m)) (by simp only [execOp, heq]) (by rw [e1, e2]; exact h1) h2
            · cases h
          · cases h
        · cases h
      · cases h
    · cases h
  · next t x lo hi heq =>
    split at h
    · next c lo' hi' hc hlo hhi =>
      obtain ⟨c', u, h1, h2, h3⟩ := dSlice_ok hE hR (operandC_ok hI hc) (optInt_ok (P := P) hI hlo) (optInt_ok (P := P) hI hhi) h
      exact wp_v (s := Instr.sliceAt t (a.eval x) (lo.map a.eval) (hi.map a.eval) none) (by simp only [execOp, heq]; rfl) h2 (same h1 h3)
    · cases h
  · next t x f heq =>
    split at h
    · next td c ht hc =>
      split at h
      · next fs hk =>
        split at h
        · next off ft size hf =>
          obtain ⟨_, d, _, _, h2, _, _, _, _, _, _, h9⟩ := (hE.tt t td ht).ex
          rw [hk] at h9
          obtain ⟨fields, rfl, _, hfld⟩ := h9
          obtain ⟨fd, i, g1, g2, g3, g4, g5⟩ := hfld f off ft size hf
          have hv := operandC_ok hI hc
          split at h
          · next id q =>
            cases hb : Nat.ble 1 size with
            | false => rw [hb] at h; cases h
            | true =>
              rw [hb] at h
              have := Nat.le_of_ble_eq_true hb
              refine wp_v (s := Instr.fieldAt t (a.eval x) f) (by simp only [execOp, heq]) (x := ptrV (φ id) (q + off)) (w' := w) ?_ (same h ⟨hv.1, rfl⟩)
              rw [hv.2, ← g2]
              have := run_fieldAt (w := w) h2 g1 (by rw [g3]; exact g4) (by omega) (φ id).b ((φ id).o + q)
              rw [Nat.add_assoc] at this
              exact this
          · next id j q =>
            cases hb : Nat.ble 1 size with
            | false => rw [hb] at h; cases h
            | true =>
              rw [hb] at h
              have := Nat.le_of_ble_eq_true hb
              refine wp_v (s := Instr.fieldAt t (a.eval x) f) (by simp only [execOp, heq]) (x := ptrV (φ id) (j * (φ id).sz + (q + off))) (w' := w) ?_ (same h ⟨hv.1, hv.2.1, rfl⟩)
              rw [hv.2.2, ← g2]
              have := run_fieldAt (w := w) h2 g1 (by rw [g3]; exact g4) (by omega) (φ id).b ((φ id).o + (j * (φ id).sz + q))
              rw [Nat.add_assoc, Nat.add_assoc] at this
              exact this
          · next e v q =>
            cases hb : Nat.ble 1 size with
            | false => rw [hb] at h; cases h
            | true =>
              rw [hb] at h
              have := Nat.le_of_ble_eq_true hb
              obtain ⟨b, oo, hv', hfz, hcells⟩ := hv
              refine wp_v (s := Instr.fieldAt t (a.eval x) f) (by simp only [execOp, heq]) (x := .pointer (some ⟨b, oo + (q + off), none⟩)) (w' := w) ?_ (same h ⟨b, oo, rfl, hfz, hcells⟩)
              rw [hv', ← g2]
              have := run_fieldAt (w := w) h2 g1 (by rw [g3]; exact g4) (by omega) b (oo + q)
              rw [Nat.add_assoc] at this
              exact this
          · cases h
        · cases h
      · cases h
    · cases h
  · next t x f heq =>
    split at h
    · next td cs ht hx =>
      split at h
      · next fs hk =>
        split at h
        · next off ft size hf =>
          split at h
          · next fd hfd =>
            cases hb : Nat.ble (off + size) cs.length with
            | false => rw [hb] at h; cases h
            | true =>
              rw [hb] at h
              have hb := Nat.le_of_ble_eq_true hb
              dsimp only [chk] at h
              obtain ⟨_, d, _, _, h2, _, _, _, _, _, _, h9⟩ := (hE.tt t td ht).ex
              rw [hk] at h9
              obtain ⟨fields, rfl, _, hfld⟩ := h9
              obtain ⟨fdd, i, g1, g2, g3, g4, g5⟩ := hfld f off ft size hf
              obtain ⟨fi, fdd', fz, q1, q2, q3, _, q5, _⟩ := (hE.tt ft fd hfd).ex
              rw [g4] at q1; cases q1
              obtain ⟨vs, hvx, hxx⟩ := operandF_ok hI hx
              have hvl := hxx.len
              have hsub := (hxx.drop off).take size
              have hfield : ∀ y, (Go.part ft vs.toArray off).run P w = .ok y w → (Instr.field t (a.eval x) f).run P w = .ok y w := fun y hy => by
                rw [hvx]; simp [Instr.field, run_underlying h2, g1, asAgg, g3, g2, hy]
              split at h
              · next hag =>
                refine wp_v (s := Instr.field t (a.eval x) f) (by simp only [execOp, heq]) (x := .agg ((vs.drop off).take size).toArray) (w' := w) (hfield _ ?_) (same h ⟨_, rfl, hsub⟩)
                have hg : (isAgg ft).run P w = .ok true w := by
                  rw [q5] at hag
                  cases fdd' <;> simp [isAggD] at hag <;> simp [isAgg, run_underlying q2]
                simp only [Go.part, Sem.run_bind, hg, Result.andThen_ok, if_true, sizeOf, typeInfo, run_program, g4, Sem.run_pure]
                congr 2
                apply Array.ext'
                simp [g5, List.take_drop, Nat.add_comm]
              · next hag =>
                split at h
                · next c hc1 =>
                  rw [hc1] at hsub
                  obtain ⟨v, hv, hcv⟩ := all2_single hsub
                  refine wp_v (s := Instr.field t (a.eval x) f) (by simp only [execOp, heq]) (x := v) (w' := w) (hfield _ ?_) (same h hcv)
                  have hg : (isAgg ft).run P w = .ok false w := by
                    rw [q5] at hag
                    cases fdd' <;> simp [isAggD] at hag <;> simp [isAgg, run_underlying q2]
                  have hget : vs[off]? = some v := by
                    have : ((vs.drop off).take size)[0]? = some v := by rw [hv]; rfl
                    simpa using (list_split this).1
                  simp [Go.part, Sem.run_bind, hg, hget]
                · cases h
          · cases h
        · cases h
      · cases h
    · cases h
  · next t x i heq =>
    split at h
    · next c q n hc hn =>
      have e1 := crep_int (operandC_ok hI hn)
      obtain ⟨c', u, h1, h2, h3⟩ := dIndexAddr_ok (kd := q) hE hR (operandC_ok hI hc) h
      exact wp_v (s := Instr.indexAt t (a.eval x) (a.eval i)) (by simp only [execOp, heq]) (by rw [e1]; exact h2) (same h1 h3)
    · cases h
  · next t x i heq =>
    split at h
    · next s q n hs hn =>
      cases hk : isStr (kindOf E t) with
      | false => rw [hk] at h; cases h
      | true =>
        rw [hk] at h
        dsimp only [chk] at h
        have hu : P.underlying t = some .string := by
          cases hkk : kindOf E t <;> rw [hkk] at hk <;> simp [isStr] at hk
          obtain ⟨d, h1, h2⟩ := hE.kind hkk (by simp); rw [h1]; exact congrArg some h2
        unfold sbind at h
        split at h
        · next b hb =>
          unfold bidx at hb
          split at hb
          · next h0 =>
            cases hg : s[n.toNat]? with
            | none => rw [hg] at hb; cases hb
            | some bb =>
              rw [hg] at hb
              simp only [Option.map_some, Option.some.injEq] at hb
              subst hb
              have e1 := crep_int (operandC_ok hI hn)
              have e2 := crep_str (operandC_ok hI hs)
              refine wp_v (s := Instr.index t (a.eval x) (a.eval i)) (by simp only [execOp, heq]) (x := .int .u8 bb.toNat) (w' := w) ?_ (same h (TRep.int _ _))
              rw [e1, e2]
              simp [Instr.index, asIntOf, run_underlying hu, h0, hg]
          · cases hb
        · cases h
    · next q n _ hn =>
      split at h
      · next cs m e hx hk =>
        split at h
        · next l hl =>
          cases hc : (isStr (kindOf E e) && Nat.beq l.length m) with
          | false => rw [hc] at h; cases h
          | true =>
            rw [hc] at h
            dsimp only [chk] at h
            simp only [Bool.and_eq_true] at hc
            have hlm := beq_yes hc.2
            obtain ⟨d, hd1, hd2, ie, hd3, hd4⟩ := hE.kind hk (by simp)
            subst hd2
            have hu : P.underlying e = some .string := by
              have hs := hc.1
              cases hkk : kindOf E e <;> rw [hkk] at hs <;> simp [isStr] at hs
              obtain ⟨d, h1, h2⟩ := hE.kind hkk (by simp); rw [h1]; exact congrArg some h2
            unfold sbind at h
            split at h
            · next b hb =>
              unfold idx at hb
              split at hb
              · next h0 =>
                have hlt := (List.getElem?_eq_some_iff.1 hb).1
                have e1 := crep_int (operandC_ok hI hn)
                obtain ⟨vs, e2, e3⟩ := operandF_ok hI hx
                obtain ⟨g1, g2⟩ := strsOf_ok hl e3
                refine wp_v (s := Instr.index t (a.eval x) (a.eval i)) (by simp only [execOp, heq]) (x := .string b) (w' := w) ?_ (same h (TRep.str _))
                rw [e1, e2]
                have hv : vs[n.toNat]? = some (.string b) := g2 _ _ hb
                simp [Instr.index, asIntOf, run_underlying hd1, h0, sizeOf, typeInfo, hd3, hd4, Go.part, isAgg, run_underlying hu, hv, show n < (m : Int) by omega]
              · cases hb
            · cases h
        · cases h
      · cases h
    · cases h
  · next x i heq =>
    split at h
    · next xs hx =>
      split at h
      · next v hv =>
        obtain ⟨vs, hxv, hvs⟩ := operand_ok hI hx
        obtain ⟨u, hu, hr⟩ := hvs.get hv
        refine wp_v (s := Instr.extract (a.eval x) i) (by simp only [execOp, heq]) (x := u) (w' := w) ?_ (same h hr)
        rw [hxv]; simp [Instr.extract, hu]
      · cases h
    · cases h
  · next b as_ ts heq =>
    have hbi : ∀ (vs : List Value) (s : Sem Value), as_.toList.map a.eval = vs → (∀ cs, builtin b ts o.type cs vs.toArray = (do pure (Next.value (← s)))) → ∀ u w', s.run P w = .ok u w' → next (a.put o.dst u) w' → o.wp P a w next Q := fun vs s hvs hb u w' hrun hn => by
      refine wp_of_run (x := u) (w' := w') ?_ hn
      have hmap : as_.map a.eval = vs.toArray := by apply Array.ext'; simpa using hvs
      simp only [execOp, heq, resolve, invoke, hmap]
      show ((builtin b ts o.type _ vs.toArray) : Sem Next).run P w = _
      rw [hb]; exact run_v hrun
    split at h
    · next c has =>
      split at h
      · next t hts =>
        have hvs := operandsF_ok hI has
        generalize hmm : as_.toList.map a.eval = vs at hvs
        cases hvs with
        | cons hc ht =>
          cases ht
          obtain ⟨c', u, h1, h2, h3⟩ := dLen_ok (P := P) (ty := o.type) hE hR hts hc h
          exact hbi _ (Builtin.len_ ts o.type #[_]) hmm (fun _ => rfl) u w h2 (same h1 h3)
      · cases h
    · next s x has =>
      split at h
      · next t u hts hus =>
        split at h
        · next e hs =>
          cases hk : (isSlice (kindOf E u) || isStr (kindOf E u)) with
          | false => rw [hk] at h; cases h
          | true =>
            rw [hk] at h
            have hvs := operandsF_ok hI has
            generalize hmm : as_.toList.map a.eval = vs at hvs
            cases hvs with
            | cons hc ht =>
              cases ht with
              | cons hx ht =>
                cases ht
                obtain ⟨v, w', h1, h2⟩ := dAppend_ok (P := P) (ty := o.type) hE hR hs hk hc hx h hG
                refine hbi _ (Builtin.append_ ts o.type #[_, _]) hmm (fun _ => rfl) v w' ?_ h2
                rw [← h1]
                unfold Builtin.append_
                simp [hts, hus]
        · cases h
      · cases h
    · next d x has =>
      split at h
      · next t hts =>
        split at h
        · next e hs =>
          have hvs := operandsF_ok hI has
          generalize hmm : as_.toList.map a.eval = vs at hvs
          cases hvs with
          | cons hc ht =>
            cases ht with
            | cons hx ht =>
              cases ht
              obtain ⟨v, w', h1, h2⟩ := dCopy_ok (P := P) (ty := o.type) hE hR hts hs hc hx h hG
              exact hbi _ (Builtin.copy_ ts o.type #[_, _]) hmm (fun _ => rfl) v w' h1 h2
        · cases h
      · cases h
    · next d has =>
      split at h
      · next t hts =>
        split at h
        · next e hs =>
          split at h
          · next ed hed =>
            split at h
            · next z hz =>
              have hvs := operandsF_ok hI has
              generalize hmm : as_.toList.map a.eval = vs at hvs
              cases hvs with
              | cons hc ht =>
                cases ht
                obtain ⟨v, w', h1, h2⟩ := dClear_ok (P := P) (ty := o.type) hE hR hts hs hed hz hc h hG
                exact hbi _ (Builtin.clear_ ts o.type #[_]) hmm (fun _ => rfl) v w' h1 h2
            · cases h
          · cases h
        · cases h
      · cases h
    · next i n q m has =>
      have hvs := operandsF_ok hI has
      generalize hmm : as_.toList.map a.eval = vs at hvs
      cases hvs with
      | cons hc ht =>
        cases ht with
        | cons hx ht =>
          cases ht
          have e1 := crep_int (D := fun i => i < st.nx) (φ := φ) (Fz := Fz) (w := w) hc
          have e2 := crep_int (D := fun i => i < st.nx) (φ := φ) (Fz := Fz) (w := w) hx
          subst e1 e2
          exact hbi _ (Builtin.max_ ts o.type #[_, _]) hmm (fun _ => rfl) _ w rfl (same h (TRep.int _ _))
    · next i n q m has =>
      have hvs := operandsF_ok hI has
      generalize hmm : as_.toList.map a.eval = vs at hvs
      cases hvs with
      | cons hc ht =>
        cases ht with
        | cons hx ht =>
          cases ht
          have e1 := crep_int (D := fun i => i < st.nx) (φ := φ) (Fz := Fz) (w := w) hc
          have e2 := crep_int (D := fun i => i < st.nx) (φ := φ) (Fz := Fz) (w := w) hx
          subst e1 e2
          exact hbi _ (Builtin.min_ ts o.type #[_, _]) hmm (fun _ => rfl) _ w rfl (same h (TRep.int _ _))
    · cases h
  · next f as_ ts heq => exact absurd heq (hnc f as_ ts)
  · cases h
end
end Go.Ve

namespace Go.Ve
open Go.RowKit Go.Lib
set_option linter.unusedVariables false
set_option linter.unusedSimpArgs false

section
variable {S : Sig}
structure RenOk (n : List BS) (ren : Nat → Nat × Nat) (D1 : Nat → Prop) (φ1 : Nat → Loc) (D2 : Nat → Prop) (φ2 : Nat → Loc) : Prop where
  vec : ∀ i, isVec n i = true → D1 i → D2 (ren i).1 ∧ φ2 (ren i).1 = φ1 i
  var : ∀ i, isVar n i = true → D1 i → D2 (ren i).1 ∧ ∀ off, ptrV (φ2 (ren i).1) ((ren i).2 + off) = ptrV (φ1 i) off
variable {n : List BS} {ren : Nat → Nat × Nat} {D1 : Nat → Prop} {φ1 : Nat → Loc} {D2 : Nat → Prop} {φ2 : Nat → Loc}

def Tr1 (S : Sig) (D1 : Nat → Prop) (φ1 : Nat → Loc) (D2 : Nat → Prop) (φ2 : Nat → Loc) (c c' : Cell S.K) : Prop := ∀ (Fz : Nat → Prop) (w : World) (v : Value), CRep S D1 φ1 Fz w c v → CRep S D2 φ2 Fz w c' v
def flatC {K : Nat → Type} : Cell K → Bool
  | .arr _ _ | .tpt _ _ _ => false
  | _ => true
theorem CRep.flat {D : Nat → Prop} {φ : Nat → Loc} {Fz Fz' : Nat → Prop} {w : World} {c : Cell S.K} (hc : flatC c = true) {v : Value} (h : CRep S D φ Fz w c v) : CRep S D φ Fz' w c v := by
  cases c <;> first | exact h | (simp [flatC] at hc; done) | (have h' : TRep _ _ _ _ _ := h; cases h'; constructor)

theorem caps_ren (h : RenOk n ren D1 φ1 D2 φ2) : ∀ {l : List (Nat × Nat)}, capsOk n l = true → capsIn D1 l → capsIn D2 (renCaps ren l) ∧ capVs φ2 (renCaps ren l) = capVs φ1 l
  | [], _, _ => ⟨trivial, rfl⟩
  | (i, o) :: l, hk, hd => by
    simp only [capsOk, Bool.and_eq_true] at hk
    obtain ⟨g1, g2⟩ := caps_ren h hk.2 hd.2
    obtain ⟨q1, q2⟩ := h.var i hk.1 hd.1
    exact ⟨⟨q1, g1⟩, by simp only [renCaps, capVs]; rw [q2, g2]⟩
theorem renCaps_id : ∀ l : List (Nat × Nat), renCaps (fun i => (i, 0)) l = l
  | [] => rfl
  | (i, o) :: l => by simp [renCaps, renCaps_id l]

theorem buildC_ren (h : RenOk n ren D1 φ1 D2 φ2) {s : CS} {r : List (Cell S.K)} {x x' : Cell S.K × List (Cell S.K)} (hx : buildC n (fun i => (i, 0)) s r = some x) (hx' : buildC n ren s r = some x') : x'.2 = x.2 ∧ Tr1 S D1 φ1 D2 φ2 x.1 x'.1 ∧ (hasTree [s] = false → flatC x'.1 = true) := by
  cases s with
  | d t =>
    cases r with
    | nil => simp [buildC] at hx
    | cons c r =>
      simp only [buildC] at hx hx'
      split at hx
      · next hf =>
        rw [hf] at hx'
        cases hx; cases hx'
        refine ⟨rfl, fun Fz w v hv => ?_, fun ht => ?_⟩
        · cases t <;> cases c <;> simp [fitsT] at hf <;> exact hv
        · cases t <;> cases c <;> simp [fitsT] at hf <;> first | rfl | (simp [hasTree] at ht)
      · cases hx
  | vec i =>
    simp only [buildC] at hx hx'
    split at hx
    · next hf => rw [hf] at hx'; cases hx; cases hx'; exact ⟨rfl, fun Fz w v hv => ⟨(h.vec i hf hv.1).1, by rw [(h.vec i hf hv.1).2]; exact hv.2⟩, fun _ => rfl⟩
    · cases hx
  | ptr i off =>
    simp only [buildC] at hx hx'
    split at hx
    · next hf =>
      rw [hf] at hx'; cases hx; cases hx'
      exact ⟨rfl, fun Fz w v hv => ⟨(h.var i hf hv.1).1, by rw [(h.var i hf hv.1).2, hv.2]; simp⟩, fun _ => rfl⟩
    · cases hx
  | fn f caps =>
    simp only [buildC] at hx hx'
    split at hx
    · next hf =>
      rw [hf] at hx'; cases hx; cases hx'
      refine ⟨rfl, fun Fz w v hv => ?_, fun _ => rfl⟩
      rw [renCaps_id] at hv
      obtain ⟨g1, g2⟩ := caps_ren h hf hv.1
      exact ⟨g1, by rw [g2]; exact hv.2⟩
    · cases hx
  | nofn => cases hx; cases hx'; exact ⟨rfl, fun _ _ _ hv => hv, fun _ => rfl⟩
  | nilp => cases hx; cases hx'; exact ⟨rfl, fun _ _ _ hv => hv, fun _ => rfl⟩
  | self i =>
    simp only [buildC] at hx hx'
    split at hx
    · next hf =>
      cases hx
      split at hx'
      · next hf' =>
        cases hx'
        simp only [Bool.and_eq_true] at hf hf'
        refine ⟨rfl, fun Fz w v hv => ⟨(h.var i hf.1 hv.1).1, ?_, hv.2.2.imp (fun h => h) (fun hp => ?_)⟩, fun _ => rfl⟩
        · have := (h.var i hf.1 hv.1).2 0
          rw [beq_yes hf'.2] at this
          simp only [ptrV, Value.pointer.injEq, Option.some.injEq, Addr.mk.injEq, Nat.zero_add, Nat.add_zero, and_true] at this
          rw [this.1, this.2]; exact hv.2.1
        · have := (h.var i hf.1 hv.1).2 0
          rw [beq_yes hf'.2] at this
          rw [hp, ← this]
      · cases hx'
    · cases hx
  | any => cases hx; cases hx'; exact ⟨rfl, fun _ _ _ _ => trivial, fun _ => rfl⟩

theorem hasTree_cons {s : CS} {ss : List CS} (h : hasTree (s :: ss) = false) : hasTree [s] = false ∧ hasTree ss = false := by
  cases s with
  | d t => cases t <;> simp [hasTree] at h ⊢ <;> exact h
  | _ => simp [hasTree] at h ⊢; exact h

theorem buildCs_ren (h : RenOk n ren D1 φ1 D2 φ2) : ∀ {ss : List CS} {r : List (Cell S.K)} {x x' : List (Cell S.K) × List (Cell S.K)}, buildCs n (fun i => (i, 0)) ss r = some x → buildCs n ren ss r = some x' → x'.2 = x.2 ∧ All2 (Tr1 S D1 φ1 D2 φ2) x.1 x'.1 ∧ (hasTree ss = false → ∀ c ∈ x'.1, flatC c = true)
  | [], r, x, x', hx, hx' => by cases hx; cases hx'; exact ⟨rfl, .nil, fun _ c hc => by cases hc⟩
  | s :: ss, r, x, x', hx, hx' => by
    simp only [buildCs] at hx hx'
    split at hx
    · next c r1 h1 =>
      split at hx
      · next cs r2 h2 =>
        cases hx
        split at hx'
        · next c' r1' h1' =>
          split at hx'
          · next cs' r2' h2' =>
            cases hx'
            obtain ⟨e, t, f⟩ := buildC_ren h h1 h1'
            dsimp only at e t f
            subst e
            obtain ⟨e2, t2, f2⟩ := buildCs_ren h h2 h2'
            refine ⟨e2, .cons t t2, fun ht c0 hc0 => ?_⟩
            obtain ⟨g1, g2⟩ := hasTree_cons ht
            rcases List.mem_cons.1 hc0 with rfl | hc0
            · exact f g1
            · exact f2 g2 c0 hc0
          · cases hx'
        · cases hx'
      · cases hx
    · cases hx

def TrF (S : Sig) (D1 : Nat → Prop) (φ1 : Nat → Loc) (D2 : Nat → Prop) (φ2 : Nat → Loc) (x x' : FV S.K) : Prop := ∀ (Fz : Nat → Prop) (w : World) (v : Value), FRep S D1 φ1 Fz w x v → FRep S D2 φ2 Fz w x' v
def flatF {K : Nat → Type} (x : FV K) : Prop := ∀ c ∈ x.cells, flatC c = true
theorem all2_tr {R : Cell S.K → Value → Prop} {R' : Cell S.K → Value → Prop} : ∀ {cs cs' : List (Cell S.K)} {vs : List Value}, All2 (fun c c' => ∀ v, R c v → R' c' v) cs cs' → All2 R cs vs → All2 R' cs' vs
  | _, _, _, .nil, .nil => .nil
  | _, _, _, .cons h t, .cons hv tv => .cons (h _ hv) (all2_tr t tv)
theorem buildF_ren (h : RenOk n ren D1 φ1 D2 φ2) {s : FS} {r : List (Cell S.K)} {x x' : FV S.K × List (Cell S.K)} (hx : buildF n (fun i => (i, 0)) s r = some x) (hx' : buildF n ren s r = some x') : x'.2 = x.2 ∧ TrF S D1 φ1 D2 φ2 x.1 x'.1 ∧ ((∀ t, treeSlots [(t, s)] = false) → flatF x'.1) := by
  cases s with
  | c s =>
    simp only [buildF] at hx hx'
    split at hx
    · next h1 =>
      cases hx
      split at hx'
      · next h1' =>
        cases hx'
        obtain ⟨e, t, f⟩ := buildC_ren h h1 h1'
        refine ⟨e, fun Fz w v hv => t Fz w v hv, fun ht c hc => ?_⟩
        simp only [FV.cells, List.mem_singleton] at hc
        subst hc
        exact f (by have := ht 0; simp only [treeSlots, Bool.or_eq_false_iff] at this; exact this.1)
      · cases hx'
    · cases hx
  | a ss =>
    simp only [buildF] at hx hx'
    split at hx
    · next h1 =>
      cases hx
      split at hx'
      · next h1' =>
        cases hx'
        obtain ⟨e, t, f⟩ := buildCs_ren h h1 h1'
        refine ⟨e, fun Fz w v hv => ?_, fun ht c hc => ?_⟩
        · obtain ⟨vs, rfl, hvs⟩ := hv
          exact ⟨vs, rfl, all2_tr (forall₂_imp (fun _ _ h v hv => h Fz w v hv) t) hvs⟩
        · exact f (by have := ht 0; simp only [treeSlots, Bool.or_eq_false_iff] at this; exact this.1) c hc
      · cases hx'
    · cases hx
theorem buildSlots_ren (h : RenOk n ren D1 φ1 D2 φ2) : ∀ {l : List (Nat × FS)} {r : List (Cell S.K)} {x x' : List (Nat × FV S.K) × List (Cell S.K)}, buildSlots n (fun i => (i, 0)) l r = some x → buildSlots n ren l r = some x' → x'.2 = x.2 ∧ All2 (fun a b => b.1 = a.1 ∧ TrF S D1 φ1 D2 φ2 a.2 b.2) x.1 x'.1 ∧ (treeSlots l = false → ∀ c ∈ x'.1, flatF c.2)
  | [], r, x, x', hx, hx' => by cases hx; cases hx'; exact ⟨rfl, .nil, fun _ c hc => by cases hc⟩
  | (t, s) :: l, r, x, x', hx, hx' => by
    simp only [buildSlots] at hx hx'
    split at hx
    · next h1 =>
      split at hx
      · next h2 =>
        cases hx
        split at hx'
        · next h1' =>
          split at hx'
          · next h2' =>
            cases hx'
            obtain ⟨e, q, f⟩ := buildF_ren h h1 h1'
            dsimp only at e q f
            subst e
            obtain ⟨e2, q2, f2⟩ := buildSlots_ren h h2 h2'
            refine ⟨e2, .cons ⟨rfl, q⟩ q2, fun ht c hc => ?_⟩
            have ht' : (∀ t', treeSlots [(t', s)] = false) ∧ treeSlots l = false := by
              cases s <;> simp only [treeSlots, Bool.or_eq_false_iff] at ht ⊢ <;> exact ⟨fun _ => ⟨ht.1, trivial⟩, ht.2⟩
            rcases List.mem_cons.1 hc with rfl | hc
            · exact f ht'.1
            · exact f2 ht'.2 c hc
          · cases hx'
        · cases hx'
      · cases hx
    · cases hx

/-- a block in other numbers -/
inductive BTr (S : Sig) (D1 : Nat → Prop) (φ1 : Nat → Loc) (D2 : Nat → Prop) (φ2 : Nat → Loc) : Blk S.K → Blk S.K → Prop
  | vec (e : Nat) (l : List (S.K e)) : BTr S D1 φ1 D2 φ2 (.vec true e l) (.vec true e l)
  | deep (e : Nat) (l : List (S.K e)) : BTr S D1 φ1 D2 φ2 (.deep e l none) (.deep e l none)
  | var (own : Bool) (cs cs' : List (Cell S.K)) (h : All2 (Tr1 S D1 φ1 D2 φ2) cs cs') : BTr S D1 φ1 D2 φ2 (.var own cs) (.var own cs')
inductive OTr (S : Sig) (D1 : Nat → Prop) (φ1 : Nat → Loc) (D2 : Nat → Prop) (φ2 : Nat → Loc) : Option (Blk S.K) → Option (Blk S.K) → Prop
  | none : OTr S D1 φ1 D2 φ2 none none
  | some (b b' : Blk S.K) (h : BTr S D1 φ1 D2 φ2 b b') : OTr S D1 φ1 D2 φ2 (some b) (some b')
/-- no tree in a block -/
def flatB (S : Sig) : Blk S.K → Prop
  | .vec _ e _ => flatE S e = true
  | .deep _ _ _ => True
  | .var _ cs => ∀ c ∈ cs, flatC c = true
theorem buildB_ren (h : RenOk n ren D1 φ1 D2 φ2) {s : BS} {r : List (Cell S.K)} {x x' : Option (Blk S.K) × List (Cell S.K)} (hx : buildB n (fun i => (i, 0)) s r = some x) (hx' : buildB n ren s r = some x') : x'.2 = x.2 ∧ OTr S D1 φ1 D2 φ2 x.1 x'.1 ∧
    (treeBlks S [s] = false → ∀ b, x'.1 = some b → flatB S b) ∧ (∀ b, x'.1 = some b → (∃ own cs, s = .var own cs ∧ b.own = own) ∨ (∃ e, s = .vec e) ∨ ∃ e, s = .deep e) := by
  cases s with
  | gone => cases hx; cases hx'; exact ⟨rfl, .none, fun _ b h => (by cases h), fun b h => (by cases h)⟩
  | vec e0 =>
    cases r with
    | nil => simp [buildB] at hx
    | cons c r =>
      cases c <;> simp only [buildB, reduceCtorEq] at hx hx'
      next e l =>
        split at hx
        · next hb =>
          rw [hb] at hx'
          cases hx; cases hx'
          refine ⟨rfl, .some _ _ (.vec e l), fun ht b hbb => ?_, fun b hbb => .inr (.inl ⟨_, rfl⟩)⟩
          cases hbb
          have := beq_yes hb
          subst this
          simp only [treeBlks, Bool.or_false, Bool.not_eq_false'] at ht
          exact ht
        · cases hx
  | deep e0 =>
    cases r with
    | nil => simp [buildB] at hx
    | cons c r =>
      cases c <;> simp only [buildB, reduceCtorEq] at hx hx'
      next e l =>
        split at hx
        · next hb =>
          rw [hb] at hx'
          cases hx; cases hx'
          exact ⟨rfl, .some _ _ (.deep e l), fun ht b hbb => by cases hbb; trivial, fun b hbb => .inr (.inr ⟨_, rfl⟩)⟩
        · cases hx
  | var own cs =>
    simp only [buildB] at hx hx'
    split at hx
    · next h1 =>
      cases hx
      split at hx'
      · next h1' =>
        cases hx'
        obtain ⟨e, t, f⟩ := buildCs_ren h h1 h1'
        refine ⟨e, .some _ _ (.var own _ _ t), fun ht b hbb => ?_, fun b hbb => ?_⟩
        · cases hbb
          simp only [treeBlks, Bool.or_false] at ht
          exact f ht
        · cases hbb; exact .inl ⟨own, cs, rfl, rfl⟩
      · cases hx'
    · cases hx
theorem treeBlks_cons {b : BS} {l : List BS} (h : treeBlks S (b :: l) = false) : treeBlks S [b] = false ∧ treeBlks S l = false := by
  cases b <;> simp only [treeBlks, Bool.or_eq_false_iff] at h ⊢ <;> first | exact ⟨⟨h.1, trivial⟩, h.2⟩ | exact ⟨trivial, h⟩ | exact ⟨rfl, h⟩
theorem buildBs_ren (h : RenOk n ren D1 φ1 D2 φ2) : ∀ {l : List BS} {r : List (Cell S.K)} {x x' : List (Option (Blk S.K))}, buildBs n (fun i => (i, 0)) l r = some x → buildBs n ren l r = some x' → All2 (OTr S D1 φ1 D2 φ2) x x' ∧ x'.length = l.length ∧
    (treeBlks S l = false → ∀ b, some b ∈ x' → flatB S b) ∧ (∀ (j : Nat) b, x'[j]? = some (some b) → (∃ own cs, l[j]? = some (.var own cs) ∧ b.own = own) ∨ (∃ e, l[j]? = some (.vec e)) ∨ ∃ e, l[j]? = some (.deep e))
  | [], r, x, x', hx, hx' => by cases hx; cases hx'; exact ⟨.nil, rfl, fun _ b hb => (by cases hb), fun j b hb => (by simp at hb)⟩
  | s :: l, r, x, x', hx, hx' => by
    simp only [buildBs] at hx hx'
    split at hx
    · next h1 =>
      split at hx
      · next h2 =>
        cases hx
        split at hx'
        · next h1' =>
          split at hx'
          · next h2' =>
            cases hx'
            obtain ⟨e, q, f, g⟩ := buildB_ren h h1 h1'
            dsimp only at e q f g
            subst e
            obtain ⟨q2, l2, f2, g2⟩ := buildBs_ren h h2 h2'
            refine ⟨.cons q q2, by simp [l2], fun ht b hb => ?_, fun j b hb => ?_⟩
            · obtain ⟨t1, t2⟩ := treeBlks_cons ht
              rcases List.mem_cons.1 hb with hb | hb
              · exact f t1 b hb.symm
              · exact f2 t2 b hb
            · cases j with
              | zero => simp only [List.getElem?_cons_zero, Option.some.injEq] at hb ⊢; exact (g b hb).imp (fun ⟨o, cs, h1, h2⟩ => ⟨o, cs, h1, h2⟩) (fun h => h.imp (fun ⟨e, h⟩ => ⟨e, h⟩) (fun ⟨e, h⟩ => ⟨e, h⟩))
              | succ j => simpa using g2 j b (by simpa using hb)
          · cases hx'
        · cases hx'
      · cases hx
    · cases hx

theorem BTr.own {b b' : Blk S.K} (h : BTr S D1 φ1 D2 φ2 b b') : b'.own = b.own := by cases h <;> rfl
theorem BTr.cells {b b' : Blk S.K} (h : BTr S D1 φ1 D2 φ2 b b') (w : World) (L : Loc) (k o : Nat) : cellsOf w L b' k o ↔ cellsOf w L b k o := by
  cases h with
  | vec => exact Iff.rfl
  | deep => exact Iff.rfl
  | var own cs cs' h => simp only [cellsOf, h.len]
theorem BTr.rep {Fz : Nat → Prop} {w : World} {L : Loc} {b b' : Blk S.K} (h : BTr S D1 φ1 D2 φ2 b b') (hB : BRep S D1 φ1 Fz w L b) : BRep S D2 φ2 Fz w L b' := by
  cases h with
  | vec => exact hB
  | deep => exact Deep.any hB
  | var own cs cs' h =>
    refine ⟨hB.1, fun j c hj => ?_⟩
    have hlt : j < cs.length := by rw [h.len]; exact (List.getElem?_eq_some_iff.1 hj).1
    obtain ⟨u, hu, hr, hf⟩ := hB.2 j cs[j] (List.getElem?_eq_getElem hlt)
    obtain ⟨c', hc', ht⟩ := h.get (List.getElem?_eq_getElem hlt)
    rw [hj] at hc'; cases hc'
    exact ⟨u, hu, ht Fz w u hr, hf⟩
theorem TRep.flat {Fz Fz' : Nat → Prop} {w : World} {e : Nat} (he : flatE S e = true) {x : S.K e} {j : Nat} {c : Cell S.K} (hc : (S.enc e x)[j]? = some c) {v : Value} (h : TRep S Fz w c v) : TRep S Fz' w c v := by
  have : flatC c = true := by
    unfold Sig.enc at hc
    unfold flatE at he
    revert hc
    generalize S.toT e x = t
    revert t j
    generalize S.sh e = l at he
    clear x h
    induction l with
    | nil => intro j t hc; simp [encL] at hc
    | cons a l ih =>
      intro j t hc
      simp only [List.all_cons, Bool.and_eq_true] at he
      cases l with
      | nil =>
        cases j with
        | zero =>
          simp only [encL, List.getElem?_cons_zero, Option.some.injEq] at hc
          subst hc
          cases a <;> first | rfl | (simp [notArr] at he)
        | succ j => simp [encL] at hc
      | cons b l =>
        cases j with
        | zero =>
          simp only [encL, List.getElem?_cons_zero, Option.some.injEq] at hc
          subst hc
          cases a <;> first | rfl | (simp [notArr] at he)
        | succ j =>
          simp only [encL, List.getElem?_cons_succ] at hc
          exact ih he.2 _ hc
  cases h with
  | arr => simp [flatC] at this
  | _ => constructor
theorem BRep.flat {D : Nat → Prop} {φ : Nat → Loc} {Fz Fz' : Nat → Prop} {w : World} {L : Loc} {b : Blk S.K} (hf : flatB S b) (ho : b.own = true) (h : BRep S D φ Fz w L b) : BRep S D φ Fz' w L b := by
  cases b with
  | deep e l hh => exact h
  | vec own e l =>
    simp only [Blk.own] at ho
    subst ho
    refine ⟨h.1, h.2.1, h.2.2.1, h.2.2.2.1, fun h0 => ?_⟩
    obtain ⟨g1, _, cur, el, fz, g3, ge, g4, g5, g6⟩ := h.2.2.2.2 h0
    refine ⟨g1, (fun h => by cases h), cur, el, fz, g3, ge, g4, g5, fun i x j c hx hc => ?_⟩
    obtain ⟨u, hu, ht⟩ := g6 i x j c hx hc
    exact ⟨u, hu, ht.flat hf hc⟩
  | var own cs =>
    refine ⟨h.1, fun j c hj => ?_⟩
    obtain ⟨u, hu, hr, hq⟩ := h.2 j c hj
    exact ⟨u, hu, hr.flat (hf c (List.mem_of_getElem? hj)), hq⟩
end
end Go.Ve

namespace Go.Ve
open Go.RowKit Go.Lib
set_option linter.unusedVariables false
set_option linter.unusedSimpArgs false

section
variable {S : Sig}

theorem get_append {α : Type} : ∀ (A B : List (Nat × α)) (t : Nat), get (A ++ B) t = match get A t with | some x => some x | none => get B t
  | [], B, t => rfl
  | (a, v) :: A, B, t => by
    rw [List.cons_append, get_cons, get_cons, get_append A B t]
    by_cases h : t = a
    · rw [if_pos h, if_pos h]
    · rw [if_neg h, if_neg h]
theorem isBack_var {K : Nat → Type} {ins : Option BS} {b : Blk K} {x : Option (Src K)} (h : isBack ins b x = false) : ∀ cs, ins ≠ some (.var true cs) := by
  rintro cs rfl
  simp [isBack] at h
theorem news_get {K : Nat → Type} {src : List (Nat × Src K)} {nx : Nat} : ∀ {blks : List (Option (Blk K))} {ins : List BS} {i j : Nat} {b : Blk K}, get (news src nx i ins blks) j = some b → ∃ q, j = nx + (i + q) ∧ blks[q]? = some (some b) ∧ isBack ins[q]? b (get src (i + q)) = false
  | [], ins, i, j, b, h => by simp [news, get] at h
  | ob :: l, ins, i, j, b, h => by
    have shift : (∃ q, j = nx + (i + 1 + q) ∧ l[q]? = some (some b) ∧ isBack ins.tail[q]? b (get src (i + 1 + q)) = false) → ∃ q, j = nx + (i + q) ∧ (ob :: l)[q]? = some (some b) ∧ isBack ins[q]? b (get src (i + q)) = false := fun ⟨q, h1, h2, h3⟩ =>
      ⟨q + 1, by omega, by simpa using h2, by rw [show i + (q + 1) = i + 1 + q by omega]; rwa [List.getElem?_tail] at h3⟩
    cases ob with
    | none => rw [news] at h; exact shift (news_get h)
    | some x =>
      rw [news] at h
      split at h
      · exact shift (news_get h)
      · next hb =>
        rw [get_cons] at h
        split at h
        · cases h
          exact ⟨0, by omega, rfl, by rw [Nat.add_zero, ← List.head?_eq_getElem?]; exact hb⟩
        · exact shift (news_get h)

theorem backs_all {src : List (Nat × Src S.K)} {H : List (Nat × Blk S.K)} : ∀ {ins : List BS} {blks : List (Option (Blk S.K))} {i : Nat} {l : List (Nat × Blk S.K)}, backs src H i ins blks = some l →
    (∀ (q : Nat) ics, ins[q]? = some (.var true ics) → ∃ cs id o old, blks[q]? = some (some (.var true cs)) ∧ get src (i + q) = some (.part id o) ∧ get H id = some (.var true old) ∧ cs.length = ics.length ∧ 1 ≤ cs.length ∧ o + cs.length ≤ old.length) ∧
    (∀ (j : Nat) b, get l j = some b → (∃ (q : Nat) (ics : List CS) (cs old : List (Cell S.K)) (o : Nat), ins[q]? = some (.var true ics) ∧ blks[q]? = some (some (.var true cs)) ∧ get src (i + q) = some (.part j o) ∧ get H j = some (.var true old) ∧ b = .var true (splice old cs o) ∧ cs.length = ics.length ∧ 1 ≤ cs.length ∧ o + cs.length ≤ old.length) ∨
      (∃ (q : Nat) (ie : Nat) (own : Bool) (e : Nat) (v : List (S.K e)), ins[q]? = some (.vec ie) ∧ blks[q]? = some (some (.vec own e v)) ∧ get src (i + q) = some (.whole j) ∧ b = .vec own e v) ∨
      ∃ (q : Nat) (ie : Nat) (e : Nat) (v : List (S.K e)) (h : Option (Nat × Nat × Nat × S.K e)), ins[q]? = some (.deep ie) ∧ blks[q]? = some (some (.deep e v h)) ∧ get src (i + q) = some (.whole j) ∧ b = .deep e v h)
  | [], blks, i, l, h => by
    simp only [backs, Option.some.injEq] at h
    subst h
    exact ⟨fun q ics hq => by simp at hq, fun j b hj => by simp [get] at hj⟩
  | s :: ins, ob :: blks, i, l, h => by
    -- what the rest says
    have tail : ∀ {l' : List (Nat × Blk S.K)}, backs src H (i + 1) ins blks = some l' →
        (∀ (q : Nat) ics, ins[q]? = some (.var true ics) → ∃ cs id o old, (ob :: blks)[q + 1]? = some (some (.var true cs)) ∧ get src (i + (q + 1)) = some (.part id o) ∧ get H id = some (.var true old) ∧ cs.length = ics.length ∧ 1 ≤ cs.length ∧ o + cs.length ≤ old.length) ∧
        (∀ (j : Nat) b, get l' j = some b → (∃ (q : Nat) (ics : List CS) (cs old : List (Cell S.K)) (o : Nat), (s :: ins)[q]? = some (.var true ics) ∧ (ob :: blks)[q]? = some (some (.var true cs)) ∧ get src (i + q) = some (.part j o) ∧ get H j = some (.var true old) ∧ b = .var true (splice old cs o) ∧ cs.length = ics.length ∧ 1 ≤ cs.length ∧ o + cs.length ≤ old.length) ∨
          (∃ (q : Nat) (ie : Nat) (own : Bool) (e : Nat) (v : List (S.K e)), (s :: ins)[q]? = some (.vec ie) ∧ (ob :: blks)[q]? = some (some (.vec own e v)) ∧ get src (i + q) = some (.whole j) ∧ b = .vec own e v) ∨
          ∃ (q : Nat) (ie : Nat) (e : Nat) (v : List (S.K e)) (h : Option (Nat × Nat × Nat × S.K e)), (s :: ins)[q]? = some (.deep ie) ∧ (ob :: blks)[q]? = some (some (.deep e v h)) ∧ get src (i + q) = some (.whole j) ∧ b = .deep e v h) := fun hr => by
      obtain ⟨g1, g2⟩ := backs_all hr
      refine ⟨fun q ics' hq => ?_, fun j b hj => ?_⟩
      · obtain ⟨cs', id', o', old', e1, e2, e3⟩ := g1 q ics' hq
        exact ⟨cs', id', o', old', by simpa using e1, by rw [show i + (q + 1) = i + 1 + q by omega]; exact e2, e3⟩
      · rcases g2 j b hj with ⟨q, ics', cs', old', o', e1, e2, e3, e4⟩ | ⟨q, ie, own, e, v, e1, e2, e3, e4⟩ | ⟨q, ie, e, v, h, e1, e2, e3, e4⟩
        · exact .inl ⟨q + 1, ics', cs', old', o', by simpa using e1, by simpa using e2, by rw [show i + (q + 1) = i + 1 + q by omega]; exact e3, e4⟩
        · exact .inr (.inl ⟨q + 1, ie, own, e, v, by simpa using e1, by simpa using e2, by rw [show i + (q + 1) = i + 1 + q by omega]; exact e3, e4⟩)
        · exact .inr (.inr ⟨q + 1, ie, e, v, h, by simpa using e1, by simpa using e2, by rw [show i + (q + 1) = i + 1 + q by omega]; exact e3, e4⟩)
    have plain : backs src H (i + 1) ins blks = some l → (∀ ics, s ≠ .var true ics) →
      (∀ (q : Nat) ics, (s :: ins)[q]? = some (.var true ics) → ∃ cs id o old, (ob :: blks)[q]? = some (some (.var true cs)) ∧ get src (i + q) = some (.part id o) ∧ get H id = some (.var true old) ∧ cs.length = ics.length ∧ 1 ≤ cs.length ∧ o + cs.length ≤ old.length) := fun hr hs q ics' hq => by
        cases q with
        | zero => simp only [List.getElem?_cons_zero, Option.some.injEq] at hq; exact absurd hq (hs ics')
        | succ q => exact (tail hr).1 q ics' (by simpa using hq)
    match s with
    | .var true ics =>
      simp only [backs] at h
      split at h
      · next cs id o hs =>
        split at h
        · next old hg =>
          split at h
          · next r hc hr =>
            cases h
            simp only [Bool.and_eq_true] at hc
            have c1 := beq_yes hc.1.1
            have c2 := Nat.le_of_ble_eq_true hc.1.2
            have c3 := Nat.le_of_ble_eq_true hc.2
            refine ⟨fun q ics' hq => ?_, fun j b hj => ?_⟩
            · cases q with
              | zero =>
                simp only [List.getElem?_cons_zero, Option.some.injEq, BS.var.injEq, true_and] at hq
                subst hq
                exact ⟨cs, id, o, old, rfl, hs, hg, c1, c2, c3⟩
              | succ q => exact (tail hr).1 q ics' (by simpa using hq)
            · rw [get_cons] at hj
              split at hj
              · next he => cases hj; subst he; exact .inl ⟨0, ics, cs, old, o, rfl, rfl, hs, hg, rfl, c1, c2, c3⟩
              · exact (tail hr).2 j b hj
          · cases h
        · cases h
      · cases h
    | .var false _ => simp only [backs] at h; exact ⟨plain h (fun _ he => by cases he), (tail h).2⟩
    | .gone => simp only [backs] at h; exact ⟨plain h (fun _ he => by cases he), (tail h).2⟩
    | .vec ie =>
      simp only [backs] at h
      split at h
      · next own e v id hs =>
        split at h
        · next r hr =>
          cases h
          refine ⟨fun q ics' hq => ?_, fun j b hj => ?_⟩
          · cases q with
            | zero => simp at hq
            | succ q => exact (tail hr).1 q ics' (by simpa using hq)
          · rw [get_cons] at hj
            split at hj
            · next he => cases hj; subst he; exact .inr (.inl ⟨0, ie, own, e, v, rfl, rfl, hs, rfl⟩)
            · exact (tail hr).2 j b hj
        · cases h
      · exact ⟨plain h (fun _ he => by cases he), (tail h).2⟩
    | .deep ie =>
      simp only [backs] at h
      split at h
      · next e v hh id hs =>
        split at h
        · next r hr =>
          cases h
          refine ⟨fun q ics' hq => ?_, fun j b hj => ?_⟩
          · cases q with
            | zero => simp at hq
            | succ q => exact (tail hr).1 q ics' (by simpa using hq)
          · rw [get_cons] at hj
            split at hj
            · next he => cases hj; subst he; exact .inr (.inr ⟨0, ie, e, v, hh, rfl, rfl, hs, rfl⟩)
            · exact (tail hr).2 j b hj
        · cases h
      · exact ⟨plain h (fun _ he => by cases he), (tail h).2⟩
  | s :: ins, [], i, l, h => by cases s <;> (try cases ‹Bool›) <;> simp [backs] at h

theorem buildCs_len {n : List BS} {ren : Nat → Nat × Nat} : ∀ {ss : List CS} {r : List (Cell S.K)} {x : List (Cell S.K) × List (Cell S.K)}, buildCs n ren ss r = some x → x.1.length = ss.length
  | [], r, x, h => by cases h; rfl
  | s :: ss, r, x, h => by
    simp only [buildCs] at h
    split at h
    · split at h
      · next h2 => cases h; simp [buildCs_len h2]
      · cases h
    · cases h
theorem buildBs_form {n : List BS} {ren : Nat → Nat × Nat} : ∀ {l : List BS} {r : List (Cell S.K)} {x : List (Option (Blk S.K))}, buildBs n ren l r = some x → x.length = l.length ∧ ∀ (j : Nat) b, x[j]? = some (some b) → (∃ own cs cells, l[j]? = some (.var own cs) ∧ b = .var own cells ∧ cells.length = cs.length) ∨ (∃ e l', l[j]? = some (.vec e) ∧ b = .vec true e l') ∨ ∃ e l', l[j]? = some (.deep e) ∧ b = .deep e l' none
  | [], r, x, h => by cases h; exact ⟨rfl, fun j b hb => by simp at hb⟩
  | s :: l, r, x, h => by
    simp only [buildBs] at h
    split at h
    · next ob r1 h1 =>
      split at h
      · next h2 =>
        cases h
        obtain ⟨g1, g2⟩ := buildBs_form h2
        refine ⟨by simp [g1], fun j b hb => ?_⟩
        cases j with
        | succ j => simpa using g2 j b (by simpa using hb)
        | zero =>
          simp only [List.getElem?_cons_zero, Option.some.injEq] at hb ⊢
          cases s with
          | gone => simp [buildB] at h1; rw [← h1.1] at hb; cases hb
          | vec e0 =>
            cases r with
            | nil => simp [buildB] at h1
            | cons c r =>
              cases c <;> simp only [buildB, reduceCtorEq] at h1
              split at h1
              · next hq =>
                cases h1; cases hb
                have := beq_yes hq
                subst this
                exact .inr (.inl ⟨_, _, rfl, rfl⟩)
              · cases h1
          | deep e0 =>
            cases r with
            | nil => simp [buildB] at h1
            | cons c r =>
              cases c <;> simp only [buildB, reduceCtorEq] at h1
              split at h1
              · next hq =>
                cases h1; cases hb
                have := beq_yes hq
                subst this
                exact .inr (.inr ⟨_, _, rfl, rfl⟩)
              · cases h1
          | var own cs =>
            simp only [buildB] at h1
            split at h1
            · next hc => cases h1; cases hb; exact .inl ⟨own, cs, _, rfl, rfl, buildCs_len hc⟩
            · cases h1
      · cases h
    · cases h

theorem buildBs_var {n : List BS} {ren : Nat → Nat × Nat} : ∀ {l : List BS} {r : List (Cell S.K)} {x : List (Option (Blk S.K))}, buildBs n ren l r = some x → ∀ (j : Nat) own cs, l[j]? = some (.var own cs) → ∃ cells, x[j]? = some (some (.var own cells)) ∧ cells.length = cs.length
  | [], r, x, h, j, own, cs, hj => by simp at hj
  | s :: l, r, x, h, j, own, cs, hj => by
    simp only [buildBs] at h
    split at h
    · next ob r1 h1 =>
      split at h
      · next h2 =>
        cases h
        cases j with
        | succ j => simpa using buildBs_var h2 j own cs (by simpa using hj)
        | zero =>
          simp only [List.getElem?_cons_zero, Option.some.injEq] at hj
          subst hj
          simp only [buildB] at h1
          split at h1
          · next hc => cases h1; exact ⟨_, rfl, buildCs_len hc⟩
          · cases h1
      · cases h
    · cases h

/-- what a callee leaves, in its own numbers -/
def Back (S : Sig) (A : FnAnn) (cells : List (Cell S.K)) (φ0 : Nat → Loc) (Fz0 : Nat → Prop) (H0 : List (Nat × Blk S.K)) (w0 : World) (v : Value) (w' : World) : Prop :=
  ∃ res blks φ' Fz', buildAll (fun i => (i, 0)) A.outL cells = some (res, blks) ∧ Rel S (fun i => i < A.outL.blocks.length) φ' Fz' (heapOf 0 blks) w' ∧ SRep S (fun i => i < A.outL.blocks.length) φ' Fz' w' (retSV res) v ∧
    (∀ i cs cs0, A.outL.blocks[i]? = some (.var true cs) → get H0 i = some (.var true cs0) → (φ' i).b = (φ0 i).b ∧ (φ' i).o = (φ0 i).o) ∧
    (∀ i, isVec A.inL.blocks i = true → isVec A.outL.blocks i = true → φ' i = φ0 i) ∧
    (∀ k, Fz0 k → Fz' k) ∧ (∀ k, Fz' k → Fz0 k ∨ (∀ o, OC w0 φ0 H0 k o) ∨ w0.heap.size ≤ k) ∧ (∀ k o, OC w' φ' (heapOf 0 blks) k o → OC w0 φ0 H0 k o ∨ w0.heap.size ≤ k) ∧ Chg (OC w0 φ0 H0) w0 w'

theorem all2_get2 {α β : Type} {R : α → β → Prop} {l : List α} {l' : List β} (h : All2 R l l') : ∀ {j : Nat} {b : β}, l'[j]? = some b → ∃ a, l[j]? = some a ∧ R a b := by
  induction h with
  | nil => intro j b h; simp at h
  | cons hr _ ih =>
    intro j b h
    cases j with
    | zero => simp at h; subst h; exact ⟨_, rfl, hr⟩
    | succ j => exact ih (by simpa using h)
theorem noLent_at : ∀ {l : List BS}, noLent l = true → ∀ {j : Nat} {cs : List CS}, l[j]? = some (.var false cs) → False
  | [], _, j, cs, h => by simp at h
  | b :: l, hn, 0, cs, h => by simp at h; subst h; simp [noLent] at hn
  | b :: l, hn, j + 1, cs, h => by
    refine noLent_at (l := l) ?_ (by simpa using h)
    cases b with
    | var own _ => cases own <;> simp [noLent] at hn ⊢; exact hn
    | vec => simpa [noLent] using hn
    | deep => simpa [noLent] using hn
    | gone => simpa [noLent] using hn
theorem ret_tr {D1 D2 : Nat → Prop} {φ1 φ2 : Nat → Loc} {Fz : Nat → Prop} {w : World} {l l' : List (Nat × FV S.K)} (h : All2 (fun a b => b.1 = a.1 ∧ TrF S D1 φ1 D2 φ2 a.2 b.2) l l') {v : Value} (hv : SRep S D1 φ1 Fz w (retSV l) v) : SRep S D2 φ2 Fz w (retSV l') v := by
  have gen : ∀ {v : Value} {l l' : List (Nat × FV S.K)}, All2 (fun a b => b.1 = a.1 ∧ TrF S D1 φ1 D2 φ2 a.2 b.2) l l' → SRep S D1 φ1 Fz w (.t (l.map (·.2))) v → SRep S D2 φ2 Fz w (.t (l'.map (·.2))) v := by
    clear hv
    rintro _ l l' h ⟨vs, rfl, hvs⟩
    refine ⟨vs, rfl, ?_⟩
    induction h generalizing vs with
    | nil => cases hvs; exact .nil
    | cons h t ih =>
      cases hvs with
      | cons a b => exact .cons (h.2 _ _ _ a) (ih _ b)
  cases h with
  | nil => exact gen .nil hv
  | cons h t =>
    cases t with
    | nil => exact h.2 _ _ _ hv
    | cons h2 t2 => exact gen (.cons h (.cons h2 t2)) hv
theorem ret_flat {D : Nat → Prop} {φ : Nat → Loc} {Fz Fz' : Nat → Prop} {w : World} {l : List (Nat × FV S.K)} (h : ∀ c ∈ l, flatF c.2) {v : Value} (hv : SRep S D φ Fz w (retSV l) v) : SRep S D φ Fz' w (retSV l) v := by
  have one : ∀ {x : FV S.K} {v : Value}, flatF x → FRep S D φ Fz w x v → FRep S D φ Fz' w x v := by
    intro x v hx hv
    cases x with
    | c c => exact CRep.flat (hx c (by simp [FV.cells])) hv
    | a cs =>
      obtain ⟨vs, rfl, hvs⟩ := hv
      refine ⟨vs, rfl, ?_⟩
      have hx' : ∀ c ∈ cs, flatC c = true := hx
      clear hx
      induction hvs with
      | nil => exact .nil
      | cons a _ ih => exact .cons (CRep.flat (hx' _ (by simp)) a) (ih (fun c hc => hx' c (List.mem_cons_of_mem _ hc)))
  have gen : ∀ {v : Value} {l : List (Nat × FV S.K)}, (∀ c ∈ l, flatF c.2) → SRep S D φ Fz w (.t (l.map (·.2))) v → SRep S D φ Fz' w (.t (l.map (·.2))) v := by
    clear hv
    rintro _ l h ⟨vs, rfl, hvs⟩
    refine ⟨vs, rfl, ?_⟩
    induction l generalizing vs with
    | nil => cases hvs; exact .nil
    | cons x l ih =>
      cases hvs with
      | cons a b => exact .cons (one (h x (by simp)) a) (ih (fun c hc => h c (List.mem_cons_of_mem _ hc)) _ b)
  match l, h, hv with
  | [], h, hv => exact gen h hv
  | [x], h, hv => exact one (h x (by simp)) hv
  | x :: y :: l, h, hv => exact gen h hv
end
end Go.Ve

namespace Go.Ve
open Go.RowKit Go.Lib
set_option linter.unusedVariables false
set_option linter.unusedSimpArgs false

section
variable {S : Sig}

theorem renOf_cases (src : List (Nat × Src S.K)) (ins outs : List BS) (nx i : Nat) : (∃ ics ocs id o, ins[i]? = some (.var true ics) ∧ outs[i]? = some (.var true ocs) ∧ get src i = some (.part id o) ∧ renOf src ins outs nx i = (id, o)) ∨
    (∃ ie oe id, ((ins[i]? = some (.vec ie) ∧ outs[i]? = some (.vec oe)) ∨ (ins[i]? = some (.deep ie) ∧ outs[i]? = some (.deep oe))) ∧ get src i = some (.whole id) ∧ renOf src ins outs nx i = (id, 0)) ∨ renOf src ins outs nx i = (nx + i, 0) := by
  unfold renOf
  split
  · next h1 h2 h3 => exact .inl ⟨_, _, _, _, h1, h2, h3, rfl⟩
  · next h1 h2 h3 => exact .inr (.inl ⟨_, _, _, .inl ⟨h1, h2⟩, h3, rfl⟩)
  · next h1 h2 h3 => exact .inr (.inl ⟨_, _, _, .inr ⟨h1, h2⟩, h3, rfl⟩)
  · exact .inr (.inr rfl)

set_option maxHeartbeats 1000000 in
theorem call_after {st : St S.K} {φ : Nat → Loc} {Fz : Nat → Prop} {w : World} (hR : Rel S (fun i => i < st.nx) φ Fz st.heap w) {T : Nat → Value} {A : FnAnn} {ψ0 ψ : Nat → Loc} {mp : Mp S.K} {xs : List (Nat × FV S.K)} {blks0 : List (Option (Blk S.K))} {cin : List (Cell S.K)}
    (hbd0 : buildAll (fun i => (i, 0)) A.inL cin = some (xs, blks0)) (hM : Matched S (fun i => i < st.nx) φ Fz st.heap w T A.inL [] ψ0 mp xs blks0 ψ) {cells : List (Cell S.K)} {v : Value} {w' : World}
    (hBk : Back S A cells ψ (FzA φ Fz st.heap w mp.fr) (heapOf 0 blks0) w v w') {res' : List (Nat × FV S.K)} {bs' : List (Option (Blk S.K))} (hb' : buildAll (renOf mp.src A.inL.blocks A.outL.blocks st.nx) A.outL cells = some (res', bs'))
    (hnl : noLent A.outL.blocks = true) {H' : List (Nat × Blk S.K)} (hu : updHeap (S := S) mp.src st.nx A.inL.blocks bs' (sel (treeOut S A) (freeze mp.fr st.heap) st.heap) = some H') :
    ∃ φ'' Fz'', After S φ Fz st w φ'' Fz'' { st with heap := H', nx := st.nx + A.outL.blocks.length } w' ∧ SRep S (fun i => i < st.nx + A.outL.blocks.length) φ'' Fz'' w' (retSV res') v := by
  obtain ⟨res, blks, φo, Fzo, hbo, hRo, hvo, hloc, hlocV, hfz1, hfz2, hown, hchg⟩ := hBk
  -- what came in
  have hinv : ∀ i ics, A.inL.blocks[i]? = some (.var true ics) → ∃ cs0, get (heapOf 0 blks0) i = some (.var true cs0) ∧ cs0.length = ics.length := fun i ics hi => by
    unfold buildAll at hbd0
    split at hbd0
    · split at hbd0
      · next h2 =>
        cases hbd0
        obtain ⟨c, h3, h4⟩ := buildBs_var h2 i true ics hi
        exact ⟨c, (heapOf_get blks0 0 i _).2 ⟨Nat.zero_le _, h3⟩, h4⟩
      · cases hbd0
    · cases hbd0
  have hpart : ∀ i id o, get mp.src i = some (.part id o) → id < st.nx ∧ (ψ i).b = (φ id).b ∧ (ψ i).o = (φ id).o + o := fun i id o hi => by
    obtain ⟨h1, h2⟩ := hM.fits i _ hi
    exact ⟨h1, (addr_b h2).1, (addr_b h2).2⟩
  have hnotFz : ∀ k o, OC w ψ (heapOf 0 blks0) k o → ¬ FzA φ Fz st.heap w mp.fr k := hM.rel.notFz
  have hOCin : ∀ k o, OC w ψ (heapOf 0 blks0) k o → OC w φ st.heap k o := fun k o h => let ⟨id, b, _, h1, h2, h3⟩ := hM.taken h; ⟨id, b, h1, h2, h3⟩
  -- the state that lends for good what the results may hold
  have hAf : ∃ Hf Fzf, Hf = sel (treeOut S A) (freeze mp.fr st.heap) st.heap ∧ After S φ Fz st w φ Fzf { st with heap := Hf } w ∧ (∀ k, Fzf k → FzA φ Fz st.heap w mp.fr k) ∧
      (∀ j, j ∈ takenIds mp.src 0 A.inL.blocks → get Hf j = get st.heap j) ∧ (∀ j b, get Hf j = some b → ∃ b0, get st.heap j = some b0 ∧ (b.own = true → b0.own = true) ∧ ∀ L k o, cellsOf w L b k o → cellsOf w L b0 k o) ∧ (treeOut S A = true → Fzf = FzA φ Fz st.heap w mp.fr) ∧ (treeOut S A = false → Fzf = Fz) := by
    cases ht : treeOut S A with
    | false => exact ⟨_, Fz, rfl, After.refl hR, fun k h => .inl h, fun _ _ => rfl, fun j b h => ⟨b, h, fun h => h, fun _ _ _ h => h⟩, fun h => (by cases h), fun _ => rfl⟩
    | true =>
      refine ⟨_, FzA φ Fz st.heap w mp.fr, rfl, After.freeze hR mp.fr, fun k h => h, fun j hj => ?_, fun j b h => ?_, fun _ => rfl, fun h => (by cases h)⟩
      · rw [freeze_get]
        have hnf : mem j mp.fr = false := by
          cases hm : mem j mp.fr with
          | false => rfl
          | true => exact absurd (apart_ids hM.apartF hj ((mem_iff _ _).1 hm)) (fun h => h)
        cases hg : get st.heap j with
        | none => rfl
        | some b =>
          cases b with
          | deep e l hh => cases hh <;> simp [hnf]
          | _ => simp [hnf]
      · rw [freeze_get] at h
        cases hg : get st.heap j with
        | none => rw [hg] at h; cases h
        | some b0 =>
          rw [hg] at h
          refine ⟨b0, rfl, ?_⟩
          cases b0 with
          | var own cs => simp only [Option.map_some, Option.some.injEq] at h; subst h; exact ⟨fun h => h, fun _ _ _ h => h⟩
          | vec own e l =>
            simp only [Option.map_some, Option.some.injEq] at h; subst h
            exact ⟨fun h => by simp only [Blk.own, Bool.and_eq_true] at h; exact h.1, fun _ _ _ h => h⟩
          | deep e l hh =>
            cases hh with
            | some h0 => simp only [Option.map_some, Option.some.injEq] at h; subst h; exact ⟨fun h => h, fun _ _ _ h => h⟩
            | none =>
              simp only [Option.map_some, Option.some.injEq] at h
              cases hm : mem j mp.fr with
              | false => rw [hm] at h; simp only [cond_false] at h; subst h; exact ⟨fun h => h, fun _ _ _ h => h⟩
              | true => rw [hm] at h; simp only [cond_true] at h; subst h; exact ⟨fun _ => rfl, fun _ _ _ h => .inl h⟩
  obtain ⟨Hf, Fzf, hHf, hAf, hFzf, htk, hfo, htree, hntree⟩ := hAf
  rw [← hHf] at hu
  have hRf := hAf.rel
  -- the blocks that come back
  obtain ⟨l, hbk, rfl⟩ : ∃ l, backs mp.src Hf 0 A.inL.blocks bs' = some l ∧ H' = news mp.src st.nx 0 A.inL.blocks bs' ++ (l ++ dels (takenIds (S := S) mp.src 0 A.inL.blocks) Hf) := by
    unfold updHeap at hu
    split at hu
    · next l hl => cases hu; exact ⟨l, hl, rfl⟩
    · cases hu
  obtain ⟨hba, hbg⟩ := backs_all hbk
  -- the new numbers
  let φ'' : Nat → Loc := fun j => if j < st.nx then φ j else φo (j - st.nx)
  let Fz'' : Nat → Prop := fun k => if treeOut S A then Fzo k else Fz k
  have hφlt : ∀ j, j < st.nx → φ'' j = φ j := fun j hj => if_pos hj
  have hφnew : ∀ i, φ'' (st.nx + i) = φo i := fun i => by show (if st.nx + i < st.nx then _ else _) = _; rw [if_neg (by omega), show st.nx + i - st.nx = i by omega]
  have hFz1 : ∀ k, Fzf k → Fz'' k := fun k hk => by
    show if treeOut S A then Fzo k else Fz k
    cases ht : treeOut S A with
    | true => simp only [if_true]; exact hfz1 k (hFzf k hk)
    | false => rw [hntree ht] at hk; simpa using hk
  have hFz2 : ∀ k, Fz'' k → Fzo k := fun k hk => by
    have hk' : if treeOut S A then Fzo k else Fz k := hk
    cases ht : treeOut S A with
    | true => rw [ht] at hk'; simpa using hk'
    | false => rw [ht] at hk'; exact hfz1 k (.inl (by simpa using hk'))
  have hentry : ∀ i ics ocs id o, A.inL.blocks[i]? = some (.var true ics) → A.outL.blocks[i]? = some (.var true ocs) → get mp.src i = some (.part id o) → id < st.nx ∧ (φo i).b = (φ id).b ∧ (φo i).o = (φ id).o + o := fun i ics ocs id o h1 h2 h3 => by
    obtain ⟨cs0, g1, _⟩ := hinv i ics h1
    obtain ⟨q1, q2⟩ := hloc i ocs cs0 h2 g1
    obtain ⟨p1, p2, p3⟩ := hpart i id o h3
    exact ⟨p1, q1.trans p2, q2.trans p3⟩
  -- a slice that comes back lies where it lay
  have hentryV : ∀ i ie oe id, ((A.inL.blocks[i]? = some (.vec ie) ∧ A.outL.blocks[i]? = some (.vec oe)) ∨ (A.inL.blocks[i]? = some (.deep ie) ∧ A.outL.blocks[i]? = some (.deep oe))) → get mp.src i = some (.whole id) → id < st.nx ∧ φo i = φ id := fun i ie oe id h12 h3 => by
    obtain ⟨q1, q2⟩ := hM.fits i _ h3
    refine ⟨q1, (hlocV i ?_ ?_).trans q2⟩
    · rcases h12 with ⟨h1, h2⟩ | ⟨h1, h2⟩ <;> unfold isVec <;> rw [h1]
    · rcases h12 with ⟨h1, h2⟩ | ⟨h1, h2⟩ <;> unfold isVec <;> rw [h2]
  have hren : RenOk A.outL.blocks (renOf mp.src A.inL.blocks A.outL.blocks st.nx) (fun i => i < A.outL.blocks.length) φo (fun i => i < st.nx + A.outL.blocks.length) φ'' := by
    refine ⟨fun i hi hd => ?_, fun i hi hd => ?_⟩
    · rcases renOf_cases mp.src A.inL.blocks A.outL.blocks st.nx i with ⟨ics, ocs, id, o, h1, h2, h3, h4⟩ | ⟨ie, oe, id, h12, h3, h4⟩ | h4
      · unfold isVec at hi; rw [h2] at hi; cases hi
      · obtain ⟨g1, g2⟩ := hentryV i ie oe id h12 h3
        rw [h4]; exact ⟨by dsimp only; omega, by rw [hφlt id g1, g2]⟩
      · rw [h4]; exact ⟨by dsimp only; omega, hφnew i⟩
    · rcases renOf_cases mp.src A.inL.blocks A.outL.blocks st.nx i with ⟨ics, ocs, id, o, h1, h2, h3, h4⟩ | ⟨ie, oe, id, h12, h3, h4⟩ | h4
      · obtain ⟨g1, g2, g3⟩ := hentry i ics ocs id o h1 h2 h3
        rw [h4]
        refine ⟨by dsimp only; omega, fun off => ?_⟩
        rw [hφlt id g1]
        simp only [ptrV, g2, g3, Nat.add_assoc]
      · unfold isVar at hi; rcases h12 with ⟨_, h2⟩ | ⟨_, h2⟩ <;> rw [h2] at hi <;> cases hi
      · rw [h4]; exact ⟨by dsimp only; omega, fun off => by rw [hφnew i, Nat.zero_add]⟩
  -- both builds side by side
  have hbuild : All2 (fun a b => b.1 = a.1 ∧ TrF S (fun i => i < A.outL.blocks.length) φo (fun i => i < st.nx + A.outL.blocks.length) φ'' a.2 b.2) res res' ∧ (treeSlots A.outL.slots = false → ∀ c ∈ res', flatF c.2) ∧
      All2 (OTr S (fun i => i < A.outL.blocks.length) φo (fun i => i < st.nx + A.outL.blocks.length) φ'') blks bs' ∧ (treeBlks S A.outL.blocks = false → ∀ b, some b ∈ bs' → flatB S b) ∧ bs'.length = A.outL.blocks.length ∧
      (∀ (j : Nat) b, bs'[j]? = some (some b) → (∃ own cs cells, A.outL.blocks[j]? = some (.var own cs) ∧ b = .var own cells ∧ cells.length = cs.length) ∨ (∃ e l', A.outL.blocks[j]? = some (.vec e) ∧ b = .vec true e l') ∨ ∃ e l', A.outL.blocks[j]? = some (.deep e) ∧ b = .deep e l' none) := by
    unfold buildAll at hbo hb'
    split at hbo
    · next s1 =>
      split at hbo
      · next b1 =>
        cases hbo
        split at hb'
        · next s2 =>
          split at hb'
          · next b2 =>
            cases hb'
            obtain ⟨e, t, f⟩ := buildSlots_ren hren s1 s2
            dsimp only at e t f
            subst e
            obtain ⟨q1, q2, q3, _⟩ := buildBs_ren hren b1 b2
            exact ⟨t, f, q1, q3, q2, (buildBs_form b2).2⟩
          · cases hb'
        · cases hb'
      · cases hbo
    · cases hbo
  obtain ⟨hres, hresf, hblk, hblkf, hblen, hform⟩ := hbuild
  have hbown : ∀ (j : Nat) b, bs'[j]? = some (some b) → b.own = true := fun j b hj => by
    rcases hform j b hj with ⟨own, cs, cells, h1, h2, _⟩ | ⟨e, l', _, h2⟩ | ⟨e, l', _, h2⟩
    · cases own with
      | true => rw [h2]; rfl
      | false => exact absurd (noLent_at hnl h1) (fun h => h)
    · rw [h2]; rfl
    · rw [h2]; rfl
  -- a callee's block: its twin
  have htwin : ∀ (q : Nat) b, bs'[q]? = some (some b) → ∃ b0, get (heapOf 0 blks) q = some b0 ∧ BTr S (fun i => i < A.outL.blocks.length) φo (fun i => i < st.nx + A.outL.blocks.length) φ'' b0 b := fun q b hq => by
    obtain ⟨ob, h1, h2⟩ := all2_get2 hblk hq
    cases h2 with
    | some b0 _ h => exact ⟨b0, (heapOf_get blks 0 q b0).2 ⟨Nat.zero_le _, by simpa using h1⟩, h⟩
  -- three kinds of blocks
  have kinds : ∀ j b, get (news mp.src st.nx 0 A.inL.blocks bs' ++ (l ++ dels (takenIds (S := S) mp.src 0 A.inL.blocks) Hf)) j = some b →
      (∃ q, j = (renOf mp.src A.inL.blocks A.outL.blocks st.nx q).1 ∧ φ'' j = φo q ∧ j < st.nx + A.outL.blocks.length ∧ bs'[q]? = some (some b) ∧ ∀ cs, A.inL.blocks[q]? ≠ some (.var true cs)) ∨
      (j < st.nx ∧ ∃ q ics cs old o, A.inL.blocks[q]? = some (.var true ics) ∧ bs'[q]? = some (some (.var true cs)) ∧ get mp.src q = some (.part j o) ∧ get Hf j = some (.var true old) ∧ b = .var true (splice old cs o) ∧ cs.length = ics.length ∧ 1 ≤ cs.length ∧ o + cs.length ≤ old.length) ∨
      (j < st.nx ∧ j ∉ takenIds (S := S) mp.src 0 A.inL.blocks ∧ get Hf j = some b) := fun j b h => by
    rw [get_append] at h
    split at h
    · next x hx =>
      cases h
      obtain ⟨q, h1, h2, h3⟩ := news_get hx
      rw [Nat.zero_add] at h1 h3
      have hlt := (List.getElem?_eq_some_iff.1 h2).1
      have hr : renOf mp.src A.inL.blocks A.outL.blocks st.nx q = (st.nx + q, 0) := by
        rcases renOf_cases mp.src A.inL.blocks A.outL.blocks st.nx q with ⟨ics, ocs, id, o, g1, g2, g3, g4⟩ | ⟨ie, oe, id, g12, g3, g4⟩ | g4
        · exact absurd g1 (isBack_var h3 ics)
        · rcases hform q b h2 with ⟨own, cs, cells, e1, e2, _⟩ | ⟨e, l', e1, e2⟩ | ⟨e, l', e1, e2⟩
          · rcases g12 with ⟨_, g2⟩ | ⟨_, g2⟩ <;> rw [g2] at e1 <;> cases e1
          · rcases g12 with ⟨g1, g2⟩ | ⟨g1, g2⟩
            · rw [g1, g3, e2] at h3; cases h3
            · rw [g2] at e1; cases e1
          · rcases g12 with ⟨g1, g2⟩ | ⟨g1, g2⟩
            · rw [g2] at e1; cases e1
            · rw [g1, g3, e2] at h3; cases h3
        · exact g4
      exact .inl ⟨q, by rw [hr]; exact h1, by rw [h1]; exact hφnew q, by omega, h2, isBack_var h3⟩
    · rw [get_append] at h
      split at h
      · next x hx =>
        cases h
        rcases hbg j b hx with ⟨q, ics, cs, old, o, h1, h2, h3, h4, h5⟩ | ⟨q, ie, own, e, v, h1, h2, h3, h4⟩ | ⟨q, ie, e, v, hh, h1, h2, h3, h4⟩
        · rw [Nat.zero_add] at h3
          exact .inr (.inl ⟨(hpart q j o h3).1, q, ics, cs, old, o, h1, h2, h3, h4, h5⟩)
        · rw [Nat.zero_add] at h3
          rcases hform q _ h2 with ⟨own, cs, cells, e1, e2, _⟩ | ⟨e', l', e1, e2⟩ | ⟨e', l', e1, e2⟩
          · cases e2
          · obtain ⟨g1, g2⟩ := hentryV q ie e' j (.inl ⟨h1, e1⟩) h3
            refine .inl ⟨q, ?_, by rw [hφlt j g1, g2], by omega, by rw [h4]; exact h2, fun cs => by rw [h1]; simp⟩
            unfold renOf; rw [h1, e1, h3]
          · cases e2
        · rw [Nat.zero_add] at h3
          rcases hform q _ h2 with ⟨own, cs, cells, e1, e2, _⟩ | ⟨e', l', e1, e2⟩ | ⟨e', l', e1, e2⟩
          · cases e2
          · cases e2
          · obtain ⟨g1, g2⟩ := hentryV q ie e' j (.inr ⟨h1, e1⟩) h3
            refine .inl ⟨q, ?_, by rw [hφlt j g1, g2], by omega, by rw [h4]; exact h2, fun cs => by rw [h1]; simp⟩
            unfold renOf; rw [h1, e1, h3]
      · rw [get_dels] at h
        split at h
        · cases h
        · next hn => exact .inr (.inr ⟨hRf.dom j b h, hn, h⟩)
  -- a variable that comes back: taken, own
  have vtaken : ∀ {q ics j o}, A.inL.blocks[q]? = some (.var true ics) → get mp.src q = some (.part j o) → j ∈ takenIds (S := S) mp.src 0 A.inL.blocks := fun h1 h2 =>
    taken_mem (i := 0) h1 (by rw [Nat.zero_add]; exact h2) rfl (.inl ⟨_, rfl, _, _, rfl⟩)
  -- cells that were not handed over
  have cUn : ∀ j b, j ∉ takenIds (S := S) mp.src 0 A.inL.blocks → get Hf j = some b → ∀ k x, cellsOf w (φ j) b k x → ¬ OC w ψ (heapOf 0 blks0) k x := fun j b hn hg k x hc ho => by
    obtain ⟨id, b', hm, h1, h2, h3⟩ := hM.taken ho
    obtain ⟨b0, g1, _, g3⟩ := hfo j b hg
    exact hR.dis id j b' b0 h1 g1 (fun e => hn (e ▸ hm)) h2 k x h3 (g3 _ k x hc)
  have cVar : ∀ {q ics j o old}, A.inL.blocks[q]? = some (.var true ics) → get mp.src q = some (.part j o) → get Hf j = some (.var true old) → ∀ k x, cellsOf w (φ j) (Blk.var true old) k x → ¬ ((φ j).o + o ≤ x ∧ x < (φ j).o + o + ics.length) → ¬ OC w ψ (heapOf 0 blks0) k x := fun {q ics j o old} h1 h2 h3 k x hc hout ho => by
    have hj := vtaken h1 h2
    rw [htk j hj] at h3
    obtain ⟨i2, b2, hg2, ho2, hc2⟩ := ho
    have hb2 : blks0[i2]? = some (some b2) := by simpa using ((heapOf_get blks0 0 i2 b2).1 hg2).2
    obtain ⟨s2, bb2, hs2, hbb2, horig, hos, _⟩ := hM.orig i2 b2 hb2
    rw [ho2] at horig
    by_cases he : i2 = q
    · subst he
      obtain ⟨cs0, g1, g2⟩ := hinv i2 ics h1
      rw [hg2] at g1; cases g1
      obtain ⟨_, p2, p3⟩ := hpart i2 j o h2
      obtain ⟨_, c2, c3⟩ := hc2
      rw [p3] at c2 c3
      exact hout ⟨c2, by omega⟩
    · obtain ⟨id2, bc, e1, e2, e3, e4⟩ := horig.own hc2
      by_cases hid : id2 = j
      · subst hid
        rcases Nat.lt_or_gt_of_ne he with hlt | hlt
        · exact taken_dist (i := 0) hM.nodup hlt hbb2 h1 (by rw [Nat.zero_add]; exact hs2) (by rw [Nat.zero_add]; exact h2) e1 rfl (hos ho2) (.inl ⟨_, rfl, _, _, rfl⟩)
        · exact taken_dist (i := 0) hM.nodup hlt h1 hbb2 (by rw [Nat.zero_add]; exact h2) (by rw [Nat.zero_add]; exact hs2) rfl e1 (.inl ⟨_, rfl, _, _, rfl⟩) (hos ho2)
      · exact hR.dis id2 j bc _ e2 h3 hid e3 k x e4 hc
  have cK : ∀ j b, j ∉ takenIds (S := S) mp.src 0 A.inL.blocks → get Hf j = some b → ∀ k x, cellsOf w' (φ j) b k x ↔ cellsOf w (φ j) b k x := fun j b hn hg => cellsOf.keep hchg (cUn j b hn hg) (hRf.rep j b hg)
  -- cells of blocks that the callee leaves
  have cNew : ∀ (q : Nat) b, bs'[q]? = some (some b) → ∀ k x, cellsOf w' (φo q) b k x → OC w ψ (heapOf 0 blks0) k x ∨ w.heap.size ≤ k := fun q b hq k x hc => by
    obtain ⟨b0, h1, h2⟩ := htwin q b hq
    exact hown k x ⟨q, b0, h1, by rw [← h2.own]; exact hbown q b hq, (h2.cells _ _ k x).1 hc⟩
  -- where a variable that comes back lies with the callee
  have vplace : ∀ {q ics cs j o}, A.inL.blocks[q]? = some (.var true ics) → bs'[q]? = some (some (Blk.var true cs)) → get mp.src q = some (.part j o) → (φo q).b = (φ j).b ∧ (φo q).o = (φ j).o + o := fun {q ics cs j o} h1 h2 h3 => by
    rcases hform q _ h2 with ⟨own, ocs, cells', g1, g2, _⟩ | ⟨e, l', _, g2⟩ | ⟨e, l', _, g2⟩
    · cases g2; exact (hentry q ics ocs j o h1 g1 h3).2
    · cases g2
    · cases g2
  have hchgFz : ∀ k x, OC w ψ (heapOf 0 blks0) k x → ¬ Fzf k := fun k x h hk => hnotFz k x h (hFzf k hk)
  have hDup : ∀ i, i < st.nx → i < st.nx + A.outL.blocks.length := fun i h => by omega
  -- a heap block where a handed-over cell lies holds no tree of the results
  have hVfz : ∀ {q ics cs j o}, A.inL.blocks[q]? = some (.var true ics) → bs'[q]? = some (some (Blk.var true cs)) → get mp.src q = some (.part j o) → 1 ≤ cs.length → ¬ Fzo (φ j).b := fun {q ics cs j o} h1 h2 h3 h4 hk => by
    obtain ⟨b0, g1, g2⟩ := htwin q _ h2
    obtain ⟨p1, p2⟩ := vplace h1 h2 h3
    have hc : cellsOf w' (φo q) b0 (φ j).b (φo q).o := (g2.cells _ _ _ _).1 ⟨p1.symm, Nat.le_refl _, by omega⟩
    exact hRo.fz q b0 g1 (by rw [← g2.own]; rfl) _ _ hc hk
  refine ⟨φ'', Fz'', ⟨⟨?_, ?_, ?_, ?_, ?_, fun x hx => ⟨hFz1 _ (hAf.fz _ (hR.inv x hx).1), (hRo.inv x hx).2⟩⟩, Nat.le_add_right _ _, rfl, hφlt, fun k hk => hFz1 k (hAf.fz k hk), ?_, ?_, hchg.mono (fun k o _ h => hOCin k o h)⟩, ?_⟩
  · intro j b hg
    rcases kinds j b hg with ⟨q, _, _, h, _⟩ | ⟨h, _⟩ | ⟨h, _⟩
    · exact h
    · show j < st.nx + A.outL.blocks.length; omega
    · show j < st.nx + A.outL.blocks.length; omega
  · intro j b hg
    rcases kinds j b hg with ⟨q, hjq, hq, _, hb, hni⟩ | ⟨hj, q, ics, cs, old, o, h1, h2, h3, h4, rfl, c1, c2, c3⟩ | ⟨hj, hn, hg⟩
    · rw [hq]
      obtain ⟨b0, g1, g2⟩ := htwin q b hb
      have hB := g2.rep (hRo.rep q b0 g1)
      show BRep S _ φ'' (fun k => if treeOut S A then Fzo k else Fz k) w' (φo q) b
      cases ht : treeOut S A with
      | true => simpa using hB
      | false =>
        simp only [Bool.false_eq_true, if_false]
        simp only [treeOut, Bool.or_eq_false_iff] at ht
        exact hB.flat (hblkf ht.2 b (List.mem_of_getElem? hb)) (hbown q b hb)
    · rw [hφlt j hj]
      obtain ⟨haddr, hcells⟩ := hRf.rep j _ h4
      obtain ⟨p1, p2⟩ := vplace h1 h2 h3
      obtain ⟨b0, g1, g2⟩ := htwin q _ h2
      have hB := g2.rep (hRo.rep q b0 g1)
      have hB2 : BRep S (fun i => i < st.nx + A.outL.blocks.length) φ'' Fz'' w' (φo q) (.var true cs) := by
        show BRep S _ φ'' (fun k => if treeOut S A then Fzo k else Fz k) w' (φo q) _
        cases ht : treeOut S A with
        | true => simpa using hB
        | false =>
          simp only [Bool.false_eq_true, if_false]
          simp only [treeOut, Bool.or_eq_false_iff] at ht
          exact hB.flat (hblkf ht.2 _ (List.mem_of_getElem? h2)) rfl
      refine ⟨haddr, fun m c hm => ?_⟩
      rw [splice_at c3] at hm
      by_cases hin : o ≤ m ∧ m < o + cs.length
      · rw [if_pos hin] at hm
        obtain ⟨u, q1, q2, q3⟩ := hB2.2 (m - o) c hm
        rw [p1, p2, show (φ j).o + o + (m - o) = (φ j).o + m by omega] at q1 q3
        exact ⟨u, q1, q2, q3⟩
      · rw [if_neg hin] at hm
        obtain ⟨u, q1, q2, q3⟩ := hcells m c hm
        have hml := (List.getElem?_eq_some_iff.1 hm).1
        have hno := cVar h1 h3 h4 (φ j).b ((φ j).o + m) ⟨rfl, by omega, by omega⟩ (by omega)
        have := hchg.cell (φ j).b ((φ j).o + m) (lt_of_cell q1) hno
        exact ⟨u, by rw [this.1]; exact q1, q2.keep hchg hchgFz hFz1 hDup hφlt, fun ho => by rw [this.2]; exact q3 ho⟩
    · rw [hφlt j hj]
      exact (hRf.rep j b hg).keep hchg hchgFz hFz1 hDup hφlt (cUn j b hn hg)
  · intro j j' b b' hg hg' hne ho k x hc hc'
    have hNV : ∀ {q b q' ics cs old j o}, bs'[q]? = some (some b) → (∀ cs, A.inL.blocks[q]? ≠ some (.var true cs)) → cellsOf w' (φo q) b k x → A.inL.blocks[q']? = some (.var true ics) → bs'[q']? = some (some (Blk.var true cs)) → get mp.src q' = some (.part j o) → get Hf j = some (.var true old) → cs.length = ics.length → o + cs.length ≤ old.length → cellsOf w' (φ j) (Blk.var true (splice old cs o)) k x → False :=
      fun {q b q' ics cs old j o} h1 h2 h3 g1 g2 g3 g4 g5 g6 g7 => by
        obtain ⟨e1, e2, e3⟩ := g7
        rw [splice_len g6] at e3
        by_cases hin : (φ j).o + o ≤ x ∧ x < (φ j).o + o + ics.length
        · obtain ⟨p1, p2⟩ := vplace g1 g2 g3
          obtain ⟨b0, r1, r2⟩ := htwin q b h1
          obtain ⟨b0', r1', r2'⟩ := htwin q' _ g2
          have hqq : q ≠ q' := fun e => h2 ics (e ▸ g1)
          exact hRo.dis q q' b0 b0' r1 r1' hqq (by rw [← r2.own]; exact hbown q b h1) k x ((r2.cells _ _ k x).1 h3) ((r2'.cells _ _ k x).1 ⟨e1.trans p1.symm, by omega, by omega⟩)
        · have hcell : cellsOf w (φ j) (Blk.var true old) k x := ⟨e1, e2, e3⟩
          rcases cNew q b h1 k x h3 with h | h
          · exact cVar g1 g3 g4 k x hcell hin h
          · have := hRf.cellLt g4 hcell; omega
    have hNO : ∀ {q b j b'}, bs'[q]? = some (some b) → cellsOf w' (φo q) b k x → j ∉ takenIds (S := S) mp.src 0 A.inL.blocks → get Hf j = some b' → cellsOf w' (φ j) b' k x → False := fun {q b j b'} h1 h2 h3 h4 h5 => by
      rw [cK j b' h3 h4] at h5
      rcases cNew q b h1 k x h2 with h | h
      · exact cUn j b' h3 h4 k x h5 h
      · have := hRf.cellLt h4 h5; omega
    rcases kinds j b hg with ⟨q, hjq, hq, _, hb, hni⟩ | ⟨hj, q, ics, cs, old, o, h1, h2, h3, h4, rfl, c1, c2, c3⟩ | ⟨hj, hn, hgj⟩ <;>
      rcases kinds j' b' hg' with ⟨q', hjq', hq', _, hb', hni'⟩ | ⟨hj', q', ics', cs', old', o', h1', h2', h3', h4', rfl, c1', c2', c3'⟩ | ⟨hj', hn', hgj'⟩
    · rw [hq] at hc; rw [hq'] at hc'
      obtain ⟨b0, r1, r2⟩ := htwin q b hb
      obtain ⟨b0', r1', r2'⟩ := htwin q' b' hb'
      exact hRo.dis q q' b0 b0' r1 r1' (fun e => hne (by rw [hjq, hjq', e])) (by rw [← r2.own]; exact ho) k x ((r2.cells _ _ k x).1 hc) ((r2'.cells _ _ k x).1 hc')
    · rw [hq] at hc; rw [hφlt j' hj'] at hc'
      exact hNV hb hni hc h1' h2' h3' h4' c1' c3' hc'
    · rw [hq] at hc; rw [hφlt j' hj'] at hc'
      exact hNO hb hc hn' hgj' hc'
    · rw [hq'] at hc'; rw [hφlt j hj] at hc
      exact hNV hb' hni' hc' h1 h2 h3 h4 c1 c3 hc
    · rw [hφlt j hj] at hc; rw [hφlt j' hj'] at hc'
      obtain ⟨e1, e2, e3⟩ := hc
      obtain ⟨e1', e2', e3'⟩ := hc'
      rw [splice_len c3] at e3
      rw [splice_len c3'] at e3'
      exact hRf.dis j j' _ _ h4 h4' hne rfl k x ⟨e1, e2, e3⟩ ⟨e1', e2', e3'⟩
    · rw [hφlt j hj] at hc; rw [hφlt j' hj', cK j' b' hn' hgj'] at hc'
      obtain ⟨e1, e2, e3⟩ := hc
      rw [splice_len c3] at e3
      exact hRf.dis j j' _ _ h4 hgj' hne rfl k x ⟨e1, e2, e3⟩ hc'
    · rw [hq'] at hc'; rw [hφlt j hj] at hc
      exact hNO hb' hc' hn hgj hc
    · rw [hφlt j hj, cK j b hn hgj] at hc; rw [hφlt j' hj'] at hc'
      obtain ⟨e1', e2', e3'⟩ := hc'
      rw [splice_len c3'] at e3'
      exact hRf.dis j j' _ _ hgj h4' hne ho k x hc ⟨e1', e2', e3'⟩
    · rw [hφlt j hj, cK j b hn hgj] at hc; rw [hφlt j' hj', cK j' b' hn' hgj'] at hc'
      exact hRf.dis j j' _ _ hgj hgj' hne ho k x hc hc'
  · intro j b hg ho k x hc hk
    rcases kinds j b hg with ⟨q, hjq, hq, _, hb, hni⟩ | ⟨hj, q, ics, cs, old, o, h1, h2, h3, h4, rfl, c1, c2, c3⟩ | ⟨hj, hn, hgj⟩
    · rw [hq] at hc
      obtain ⟨b0, r1, r2⟩ := htwin q b hb
      exact hRo.fz q b0 r1 (by rw [← r2.own]; exact ho) k x ((r2.cells _ _ k x).1 hc) (hFz2 k hk)
    · rw [hφlt j hj] at hc
      have := hVfz h1 h2 h3 c2
      rw [hc.1] at hk
      exact this (hFz2 _ hk)
    · rw [hφlt j hj, cK j b hn hgj] at hc
      have hk' : if treeOut S A then Fzo k else Fz k := hk
      cases ht : treeOut S A with
      | false =>
        rw [ht] at hk'
        exact hRf.fz j b hgj ho k x hc (by rw [hntree ht]; simpa using hk')
      | true =>
        rw [ht] at hk'
        simp only [if_true] at hk'
        rcases hfz2 k hk' with h | h | h
        · exact hRf.fz j b hgj ho k x hc (by rw [htree ht]; exact h)
        · exact cUn j b hn hgj k x hc (h x)
        · have := hRf.cellLt hgj hc; omega
  · intro k hk
    exact hRo.lt k (hFz2 k hk)
  · intro k hk
    rcases hfz2 k (hFz2 k hk) with h | h | h
    · rcases h with h | ⟨id, b', o', hm, hg, hcf, hkk⟩
      · exact .inl h
      · cases hbo : b'.own with
        | true => exact .inr (.inl fun o => ⟨id, _, hg, hbo, hkk.any hcf o⟩)
        | false =>
          cases b' with
          | var => cases hcf
          | deep => cases hbo
          | vec own e l =>
            cases own with
            | true => cases hbo
            | false => exact .inl (by rw [hkk.2]; exact ((hR.rep id _ hg).2.2.2.2 hkk.1).2.1 rfl)
    · exact .inr (.inl fun o => hOCin k o (h o))
    · exact .inr (.inr h)
  · rintro k x ⟨j, b, hg, ho, hc⟩
    rcases kinds j b hg with ⟨q, hjq, hq, _, hb, hni⟩ | ⟨hj, q, ics, cs, old, o, h1, h2, h3, h4, rfl, c1, c2, c3⟩ | ⟨hj, hn, hgj⟩
    · rw [hq] at hc
      exact (cNew q b hb k x hc).imp (hOCin k x) id
    · rw [hφlt j hj] at hc
      obtain ⟨e1, e2, e3⟩ := hc
      rw [splice_len c3] at e3
      rw [htk j (vtaken h1 h3)] at h4
      exact .inl ⟨j, _, h4, rfl, e1, e2, e3⟩
    · rw [hφlt j hj, cK j b hn hgj] at hc
      obtain ⟨b0, g1, g2, g3⟩ := hfo j b hgj
      exact .inl ⟨j, b0, g1, g2 ho, g3 _ k x hc⟩
  · have h1 := ret_tr hres hvo
    show SRep S _ φ'' (fun k => if treeOut S A then Fzo k else Fz k) w' (retSV res') v
    cases ht : treeOut S A with
    | true => simpa using h1
    | false =>
      simp only [Bool.false_eq_true, if_false]
      simp only [treeOut, Bool.or_eq_false_iff] at ht
      exact ret_flat (hresf ht.1) h1
end
end Go.Ve

namespace Go.Ve
open Go.RowKit Go.Lib
set_option linter.unusedVariables false
set_option linter.unusedSimpArgs false

/-! ### places -/
inductive Occ (c0 : Code) : Code → List Item → Prop
  | root : Occ c0 c0 []
  | seqL {a b k} : Occ c0 (.seq a b) k → Occ c0 a (.code b :: k)
  | seqR {a b k} : Occ c0 (.seq a b) k → Occ c0 b k
  | condT {c a b k} : Occ c0 (.cond c a b) k → Occ c0 a k
  | condF {c a b k} : Occ c0 (.cond c a b) k → Occ c0 b k
  | block {id b k} : Occ c0 (.block id b) k → Occ c0 b (.inBlock id :: k)
  | loop {b k} : Occ c0 (.loop b) k → Occ c0 b (.inLoop b :: k)
  | scope {b k} : Occ c0 (.scope b) k → Occ c0 b (.inScope b :: k)
inductive Good (c0 : Code) : List Item → Prop
  | nil : Good c0 []
  | code {x k} : Occ c0 x k → Good c0 k → Good c0 (.code x :: k)
  | inBlock {id k} : Good c0 k → Good c0 (.inBlock id :: k)
  | inScope {b k} : Good c0 k → Good c0 (.inScope b :: k)
  | inLoop {b k} : Occ c0 (.loop b) k → Good c0 k → Good c0 (.inLoop b :: k)
theorem Occ.good {c0 x : Code} {k : List Item} (h : Occ c0 x k) : Good c0 k := by
  induction h with
  | root => exact .nil
  | seqL h ih => exact .code (.seqR h) ih
  | seqR h ih => exact ih
  | condT h ih => exact ih
  | condF h ih => exact ih
  | block h ih => exact .inBlock ih
  | loop h ih => exact .inLoop h ih
  | scope h ih => exact .inScope ih
theorem Good.exit {c0 : Code} {k : List Item} (h : Good c0 k) : ∀ {id : Nat} {k' : List Item}, exitTo id k = some k' → Good c0 k' := by
  induction h with
  | nil => intro id k' h; simp [exitTo] at h
  | code _ _ ih => intro id k' h; exact ih (by simpa [exitTo] using h)
  | @inBlock id0 k hg ih =>
    intro id k' h
    simp only [exitTo] at h
    split at h
    · cases h; exact hg
    · exact ih h
  | inScope _ ih => intro id k' h; exact ih (by simpa [exitTo] using h)
  | inLoop _ _ ih => intro id k' h; exact ih (by simpa [exitTo] using h)

def InC (id : Nat) (ops : Array Oper) (d : Bool) (k : List Item) : Code → List Item → Prop
  | .region id' ops' d', k0 => id = id' ∧ ops = ops' ∧ d = d' ∧ k = k0
  | .seq a b, k0 => InC id ops d k a (.code b :: k0) ∨ InC id ops d k b k0
  | .cond _ a b, k0 => InC id ops d k a k0 ∨ InC id ops d k b k0
  | .block i b, k0 => InC id ops d k b (.inBlock i :: k0)
  | .loop b, k0 => InC id ops d k b (.inLoop b :: k0)
  | .scope b, k0 => InC id ops d k b (.inScope b :: k0)
  | _, _ => False
theorem Occ.inC {c0 x : Code} {k : List Item} (h : Occ c0 x k) {id : Nat} {ops : Array Oper} {d : Bool} {k' : List Item} (hi : InC id ops d k' x k) : InC id ops d k' c0 [] := by
  induction h with
  | root => exact hi
  | seqL _ ih => exact ih (.inl hi)
  | seqR _ ih => exact ih (.inr hi)
  | condT _ ih => exact ih (.inl hi)
  | condF _ ih => exact ih (.inr hi)
  | block _ ih => exact ih hi
  | loop _ ih => exact ih hi
  | scope _ ih => exact ih hi
theorem findR_none : ∀ (x : Code) (id : Nat) (k : List Item), id ∉ rids x → findR id x k = none
  | .region id' _ _, id, k, h => by
    simp only [rids, List.mem_singleton] at h
    simp only [findR]
    rw [beq_no (fun e => h e.symm)]; rfl
  | .seq a b, id, k, h => by
    simp only [rids, List.mem_append, not_or] at h
    simp only [findR, findR_none a id _ h.1, findR_none b id _ h.2]
  | .cond _ a b, id, k, h => by
    simp only [rids, List.mem_append, not_or] at h
    simp only [findR, findR_none a id _ h.1, findR_none b id _ h.2]
  | .block _ b, id, k, h => by simp only [rids] at h; simp only [findR, findR_none b id _ h]
  | .loop b, id, k, h => by simp only [rids] at h; simp only [findR, findR_none b id _ h]
  | .scope b, id, k, h => by simp only [rids] at h; simp only [findR, findR_none b id _ h]
  | .skip, _, _, _ | .rangeFunc .., _, _, _ | .exit _, _, _, _ | .label _, _, _, _ | .goto _, _, _, _ | .ret, _, _, _ | .refuse _, _, _, _ => rfl
theorem inC_mem : ∀ {x : Code} {id : Nat} {ops : Array Oper} {d : Bool} {k k0 : List Item}, InC id ops d k x k0 → id ∈ rids x
  | .region .., _, _, _, _, _, h => by simp only [rids, List.mem_singleton]; exact h.1
  | .seq a b, _, _, _, _, _, h => by simp only [rids, List.mem_append]; exact h.imp inC_mem inC_mem
  | .cond _ a b, _, _, _, _, _, h => by simp only [rids, List.mem_append]; exact h.imp inC_mem inC_mem
  | .block _ b, _, _, _, _, _, h => inC_mem (x := b) h
  | .loop b, _, _, _, _, _, h => inC_mem (x := b) h
  | .scope b, _, _, _, _, _, h => inC_mem (x := b) h
  | .skip, _, _, _, _, _, h | .rangeFunc .., _, _, _, _, _, h | .exit _, _, _, _, _, _, h | .label _, _, _, _, _, _, h | .goto _, _, _, _, _, _, h | .ret, _, _, _, _, _, h | .refuse _, _, _, _, _, _, h => h.elim
theorem findR_in : ∀ (x : Code) {id : Nat} {ops : Array Oper} {d : Bool} {k k0 : List Item}, InC id ops d k x k0 → (rids x).Nodup → findR id x k0 = some (ops, d, k)
  | .region .., _, _, _, _, _, h, _ => by obtain ⟨rfl, rfl, rfl, rfl⟩ := h; simp only [findR, Nat.beq_refl, cond_true]
  | .seq a b, id, _, _, _, _, h, hn => by
    simp only [rids, List.nodup_append] at hn
    simp only [findR]
    rcases h with h | h
    · rw [findR_in a h hn.1]
    · rw [findR_none a id _ (fun hm => hn.2.2 id hm id (inC_mem h) rfl), findR_in b h hn.2.1]
  | .cond _ a b, id, _, _, _, _, h, hn => by
    simp only [rids, List.nodup_append] at hn
    simp only [findR]
    rcases h with h | h
    · rw [findR_in a h hn.1]
    · rw [findR_none a id _ (fun hm => hn.2.2 id hm id (inC_mem h) rfl), findR_in b h hn.2.1]
  | .block _ b, _, _, _, _, _, h, hn => by simp only [findR]; exact findR_in b h hn
  | .loop b, _, _, _, _, _, h, hn => by simp only [findR]; exact findR_in b h hn
  | .scope b, _, _, _, _, _, h, hn => by simp only [findR]; exact findR_in b h hn
  | .skip, _, _, _, _, _, h, _ | .rangeFunc .., _, _, _, _, _, h, _ | .exit _, _, _, _, _, _, h, _ | .label _, _, _, _, _, _, h, _ | .goto _, _, _, _, _, _, h, _ | .ret, _, _, _, _, _, h, _ | .refuse _, _, _, _, _, _, h, _ => h.elim
theorem Good.find {c0 : Code} {id : Nat} {ops : Array Oper} {d : Bool} {k : List Item} (h : Good c0 (.code (.region id ops d) :: k)) (hn : nodupIds (rids c0) = true) : findR id c0 [] = some (ops, d, k) := by
  cases h with
  | code ho _ => exact findR_in c0 (ho.inC ⟨rfl, rfl, rfl, rfl⟩) (nodup_of hn)

/-! ### what is asked of calls and labels -/
/-- from here the frame comes to its end, and hands back what is told -/
def Goes (P : Program) (b : Frame) (todo : List Item) (a : Act) (w : World) (R : Value → World → Prop) : Prop :=
  ∀ cs, ∃ v w' fr, R v w' ∧ Steps P (lone (b.at a todo) cs w) (lone fr cs w') ∧ fr.fn = b.fn ∧ fr.leaving P w' (.returned v)
theorem Goes.step {P : Program} {b : Frame} {todo todo' : List Item} {a a' : Act} {w w' : World} {R : Value → World → Prop} (hs : ∀ cs, step P (lone (b.at a todo) cs w) = .next (lone (b.at a' todo') cs w')) (h : Goes P b todo' a' w' R) : Goes P b todo a w R :=
  fun cs => let ⟨v, w2, fr, h1, h2, h3⟩ := h cs; ⟨v, w2, fr, h1, .head (hs cs) h2, h3⟩

/-- the frame's state since its function was entered -/
structure Ctx (S : Sig) (A : FnAnn) (φ0 : Nat → Loc) (Fz0 : Nat → Prop) (H0 : List (Nat × Blk S.K)) (w0 : World) (φ : Nat → Loc) (Fz : Nat → Prop) (st : St S.K) (w : World) : Prop where
  nx : A.inL.blocks.length ≤ st.nx
  entry : ∀ i own cs, A.inL.blocks[i]? = some (.var own cs) → (φ i).b = (φ0 i).b ∧ (φ i).o = (φ0 i).o
  entryV : ∀ i, isVec A.inL.blocks i = true → φ i = φ0 i
  fz : ∀ k, Fz0 k → Fz k
  fzb : ∀ k, Fz k → Fz0 k ∨ (∀ o, OC w0 φ0 H0 k o) ∨ w0.heap.size ≤ k
  own : ∀ k o, OC w φ st.heap k o → OC w0 φ0 H0 k o ∨ w0.heap.size ≤ k
  chg : Chg (OC w0 φ0 H0) w0 w
theorem Ctx.after {S : Sig} {A : FnAnn} {φ0 φ φ' : Nat → Loc} {Fz0 Fz Fz' : Nat → Prop} {H0 : List (Nat × Blk S.K)} {w0 w w' : World} {st st' : St S.K} (h : Ctx S A φ0 Fz0 H0 w0 φ Fz st w) (h' : After S φ Fz st w φ' Fz' st' w') : Ctx S A φ0 Fz0 H0 w0 φ' Fz' st' w' where
  nx := Nat.le_trans h.nx h'.nx
  entry := fun i own cs hi => by
    have hlt : i < st.nx := Nat.lt_of_lt_of_le (List.getElem?_eq_some_iff.1 hi).1 h.nx
    rw [h'.agree i hlt]; exact h.entry i own cs hi
  entryV := fun i hi => by
    have hlt : i < st.nx := Nat.lt_of_lt_of_le (lt_isVec hi) h.nx
    rw [h'.agree i hlt]; exact h.entryV i hi
  fz := fun k hk => h'.fz k (h.fz k hk)
  fzb := fun k hk => by
    rcases h'.fzb k hk with hk | hk | hk
    · exact h.fzb k hk
    · rcases Nat.lt_or_ge k w0.heap.size with hlt | hge
      · exact .inr (.inl fun o => (h.own k o (hk o)).resolve_right (by omega))
      · exact .inr (.inr hge)
    · exact .inr (.inr (Nat.le_trans h.chg.size hk))
  own := fun k o hk => by
    rcases h'.own k o hk with hk | hk
    · exact h.own k o hk
    · exact .inr (Nat.le_trans h.chg.size hk)
  chg := h.chg.trans' h'.chg (fun k o hk ho => by
    rcases h.own k o ho with h | h
    · exact h
    · omega)

section
variable (P : Program) (E : Env)
def CallOk (f m : Nat) (d : TL E.S.K (jobT E.ann ⟨f, m, none⟩)) (r : TL E.S.K (outT E.ann f m)) : Prop :=
  ∀ A, E.ann f m = some A → ∃ xs blks0, buildAll (fun i => (i, 0)) A.inL (encL (jobT E.ann ⟨f, m, none⟩) d) = some (xs, blks0) ∧
    ∀ (φ : Nat → Loc) (Fz : Nat → Prop) (w : World) (vs : Array Value), Rel E.S (fun i => i < A.inL.blocks.length) φ Fz (heapOf 0 blks0) w → Slots E.S (fun i => i < A.inL.blocks.length) φ Fz w (slotsOf xs) vs → (E.ext f m ≠ none → vs.size = A.inL.slots.length) →
      Calls P f vs w fun e w' => ∃ v, e = .returned v ∧ Back E.S A (encL (outT E.ann f m) r) φ Fz (heapOf 0 blks0) w v w'
def LabelOk (f m ρ : Nat) (d : TL E.S.K (jobT E.ann ⟨f, m, some ρ⟩)) (r : TL E.S.K (outT E.ann f m)) : Prop :=
  ∀ A L c ops draw k, E.ann f m = some A → get A.labels ρ = some L → A.fn.body = some c → findR ρ c [] = some (ops, draw, k) →
    ∃ st, build L (encL (jobT E.ann ⟨f, m, some ρ⟩) d) = some st ∧ A.inL.blocks.length ≤ L.blocks.length ∧
      ∀ (φ0 : Nat → Loc) (Fz0 : Nat → Prop) (H0 : List (Nat × Blk E.S.K)) (w0 : World) (φ : Nat → Loc) (Fz : Nat → Prop) (b : Frame) (a : Act) (w : World), Inv E.S φ Fz st a.tmps w → Ctx E.S A φ0 Fz0 H0 w0 φ Fz st w →
        (∀ i cs, A.inL.blocks[i]? = some (.var true cs) → ∃ cs0, get H0 i = some (.var true cs0)) → (∀ i cs0, get H0 i = some (.var true cs0) → ∃ cs, A.inL.blocks[i]? = some (.var true cs)) →
        b.fn = f → b.kind = .normal → a.defers = [] → A.fn.ntmps ≤ a.tmps.size →
        Goes P b (.code (.region ρ ops draw) :: k) a w (fun v w' => Back E.S A (encL (outT E.ann f m) r) φ0 Fz0 H0 w0 v w')
structure OrcOk (orc : Orc E) : Prop where
  call : ∀ f m d r, orc ⟨f, m, none⟩ d = some r → CallOk P E f m d r
  label : ∀ f m ρ d r, orc ⟨f, m, some ρ⟩ d = some r → LabelOk P E f m ρ d r
end

/-! ### a call -/
section
variable {P : Program} {E : Env} {R : Type} {φ : Nat → Loc} {Fz : Nat → Prop} {st : St E.S.K} {w : World}
theorem argSlots_get {K : Nat → Type} : ∀ (l : List (FV K)) (i t : Nat), get (argSlots i l) t = if i ≤ t then (l[t - i]?).map SV.v else none
  | [], i, t => by simp [argSlots, get]
  | x :: l, i, t => by
    rw [argSlots, get_cons, argSlots_get l (i + 1) t]
    by_cases h : t = i
    · subst h; simp
    · rw [if_neg h]
      by_cases h2 : i ≤ t
      · rw [if_pos h2, if_pos (by omega), show t - i = (t - (i + 1)) + 1 by omega, List.getElem?_cons_succ]
      · rw [if_neg h2, if_neg (by omega)]
theorem slotsOf_get {K : Nat → Type} : ∀ {l : List (Nat × FV K)} {t : Nat} {v : SV K}, get (slotsOf l) t = some v → ∃ x, (t, x) ∈ l ∧ v = .v x
  | [], t, v, h => by simp [slotsOf, get] at h
  | (t0, x) :: l, t, v, h => by
    rw [slotsOf, get_cons] at h
    split at h
    · next he => cases h; subst he; exact ⟨x, by simp, rfl⟩
    · obtain ⟨y, h1, h2⟩ := slotsOf_get h; exact ⟨y, List.mem_cons_of_mem _ h1, h2⟩
theorem capCells_rep {D : Nat → Prop} : ∀ {cp : List (Nat × Nat)}, capsIn D cp → All2 (FRep E.S D φ Fz w) (capCells cp) (capVs φ cp)
  | [], _ => .nil
  | (i, o) :: l, h => .cons ⟨h.1, rfl⟩ (capCells_rep h.2)

theorem dCall_ok (hE : EnvOk P E) {orc : Orc E} (hO : OrcOk P E orc) {a : Act} (hI : Inv E.S φ Fz st a.tmps w) {g m : Nat} {xs : List (FV E.S.K)} {vs : List Value} (hxs : All2 (FRep E.S (fun i => i < st.nx) φ Fz w) xs vs) {k : Kn E R} {r : R}
    (h : dCall E orc st g m xs k = some r) {next : Value → World → Prop} (hG : Goal E.S φ Fz st w k r next) :
    (∃ A, E.ann g m = some A) ∧ Calls P g vs.toArray w fun e w' => ∃ v, e = .returned v ∧ next v w' := by
  unfold dCall at h
  split at h
  · cases h
  · next A hA =>
    refine ⟨⟨A, hA⟩, ?_⟩
    have hsz : E.ext g m ≠ none → vs.toArray.size = A.inL.slots.length := fun hx => by
      cases ha : argsOk E g m A xs.length with
      | false => rw [ha] at h; cases h
      | true =>
        unfold argsOk at ha
        split at ha
        · next hn => exact absurd hn hx
        · rw [List.size_toArray, ← hxs.len, beq_yes ha]
    cases ha : argsOk E g m A xs.length with
    | false => rw [ha] at h; cases h
    | true =>
    rw [ha] at h
    dsimp only [chk] at h
    split at h
    · cases h
    · next cells mp hcol =>
      split at h
      · cases h
      · next d hd =>
        unfold sbind at h
        split at h
        · next rr horc =>
          dsimp only at h
          split at h
          · cases h
          · next res' bs' hb' =>
            split at h
            · cases h
            · next H' hu =>
              have hnl : noLent A.outL.blocks = true := by
                cases hn : noLent A.outL.blocks with
                | true => rfl
                | false => rw [hn] at hu; cases hu
              rw [hnl] at hu
              obtain ⟨xs0, blks0, hb0, hcall⟩ := hO.call g m d rr horc A hA
              rw [encL_decL _ _ _ hd] at hb0
              have hT : ∀ t v, get (argSlots 0 xs) t = some v → SRep E.S (fun i => i < st.nx) φ Fz w v ((vs[t]?).getD undef) := fun t v hv => by
                rw [argSlots_get, if_pos (Nat.zero_le _), Nat.sub_zero] at hv
                cases hx : xs[t]? with
                | none => rw [hx] at hv; cases hv
                | some x =>
                  rw [hx] at hv; cases hv
                  obtain ⟨u, h1, h2⟩ := hxs.get hx
                  rw [h1]; exact h2
              obtain ⟨ψ, hM⟩ := collect_ok (st := { st with slots := argSlots 0 xs }) hI.rel (T := fun t => (vs[t]?).getD undef) hT (ψ0 := φ) (fun i s hi => by simp [get] at hi) hcol hb0
              refine (hcall ψ _ w vs.toArray hM.rel (fun t v hv => ?_) hsz).mono ?_
              · obtain ⟨x, h1, rfl⟩ := slotsOf_get hv
                have := hM.slots t x h1
                rw [Array.getD_eq_getD_getElem?, List.getElem?_toArray]
                exact this
              · rintro e w' ⟨v, rfl, hBk⟩
                obtain ⟨φ'', Fz'', hAf, hs⟩ := call_after hI.rel hb0 hM hBk hb' hnl hu
                exact ⟨v, rfl, hG _ _ _ _ _ _ h hAf hs⟩
        · cases h

/-- every operation -/
theorem dopAll_ok (hE : EnvOk P E) {orc : Orc E} (hO : OrcOk P E orc) {a : Act} (hI : Inv E.S φ Fz st a.tmps w) {site : Nat → Nat} {o : Oper} {k : Kn E R} {r : R} (h : dop E orc site st o k = some r) {next : Act → World → Prop} {Q : Exit → Act → World → Prop}
    (hG : Goal E.S φ Fz st w k r (fun x w' => next (a.put o.dst x) w')) : o.wp P a w next Q := by
  by_cases hc : ∃ f as_ ts, o.op = .call { callee := .value f, args := as_, argTypes := ts }
  · obtain ⟨f, as_, ts, heq⟩ := hc
    unfold dop at h
    rw [heq] at h
    dsimp only at h
    split at h
    · next g cp xs hf hx =>
      have hfv := operandC_ok hI hf
      have hxs := operandsF_ok hI hx
      have hall := hxs.append (capCells_rep (E := E) (φ := φ) (Fz := Fz) (w := w) hfv.1)
      obtain ⟨⟨A, hA⟩, hcall⟩ := dCall_ok hE hO hI hall h hG
      obtain ⟨hfn, hname, c, hbody, _⟩ := hE.ann g _ A hA
      have hname' : ¬ A.fn.name = "runtime.NumGoroutine" := by simpa using hname
      unfold Oper.wp
      have hrun : (execOp a.eval o).run P w = .ok (.enter g (as_.toList.map a.eval ++ capVs φ cp).toArray) w := by
        have hmap : (as_.map a.eval : Array Value) ++ (capVs φ cp).toArray = (as_.toList.map a.eval ++ capVs φ cp).toArray := by apply Array.ext'; simp
        simp only [execOp, heq, resolve]
        rw [hfv.2]
        simp [Deferred.ofValue, invoke, callFunc, hfn, hname', hbody, hmap]
      rw [hrun]
      show Calls P g _ w _
      refine hcall.mono ?_
      rintro e w' ⟨v, rfl, hn⟩
      exact hn
    · cases h
  · exact dop_ok hE hI (fun f as_ ts he => hc ⟨f, as_, ts, he⟩) h hG
end
end Go.Ve
