/- What 'FnExactValidOp' comes to, in plain words over numbers, texts and lists: each function that it reaches answers what is told; put together, the law answers true. No condition but the sizes that come in. -/
import Derived.Test.YtaijkhkgjedkaaaGreatDoorEqFnExactValidOp
namespace Go.Ve.X
open Go.Ve
set_option linter.all false
set_option maxRecDepth 100000
abbrev QdS := ByteArray × Int × Q7
abbrev Q7v (x : QdS) : Prop := (x.1.size ≤ 140737488351232) ∧ ((Lit.int .i64 x.2.1).wf = true) ∧ (Qd x.2.2)
abbrev QgV := Int × Int × Bool
abbrev Q5G (x : QgV) : Prop := ((Lit.int .i64 x.1).wf = true) ∧ ((Lit.int .i64 x.2.1).wf = true) ∧ (True)
abbrev Q9W := List Int
abbrev Q2s (x : Q9W) : Prop := x.length ≤ maxLen ∧ x.length * 8 ≤ 140737488351232 ∧ ∀ e_ ∈ x, (Lit.int .i64 e_).wf = true
abbrev Q7d := ByteArray × Int × List Int × List Int × List Int × List Int × List (List Int) × Int × List Int × List Int × List Int × List Int × List (List Int)
abbrev Q12 (x : Q7d) : Prop := (x.1.size ≤ 140737488351232) ∧ ((Lit.int .i64 x.2.1).wf = true) ∧ (x.2.2.1.length ≤ maxLen ∧ x.2.2.1.length * 8 ≤ 140737488351232 ∧ ∀ e_ ∈ x.2.2.1, (Lit.int .i64 e_).wf = true) ∧ (x.2.2.2.1.length ≤ maxLen ∧ x.2.2.2.1.length * 8 ≤ 140737488351232 ∧ ∀ e_ ∈ x.2.2.2.1, (Lit.int .i64 e_).wf = true) ∧ (x.2.2.2.2.1.length ≤ maxLen ∧ x.2.2.2.2.1.length * 8 ≤ 140737488351232 ∧ ∀ e_ ∈ x.2.2.2.2.1, (Lit.int .i64 e_).wf = true) ∧ (x.2.2.2.2.2.1.length ≤ maxLen ∧ x.2.2.2.2.2.1.length * 8 ≤ 140737488351232 ∧ ∀ e_ ∈ x.2.2.2.2.2.1, (Lit.int .i64 e_).wf = true) ∧ (x.2.2.2.2.2.2.1.length ≤ maxLen ∧ x.2.2.2.2.2.2.1.length * 24 ≤ 140737488351232 ∧ ∀ e_ ∈ x.2.2.2.2.2.2.1, Q2s e_) ∧ ((Lit.int .i64 x.2.2.2.2.2.2.2.1).wf = true) ∧ (x.2.2.2.2.2.2.2.2.1.length ≤ maxLen ∧ x.2.2.2.2.2.2.2.2.1.length * 8 ≤ 140737488351232 ∧ ∀ e_ ∈ x.2.2.2.2.2.2.2.2.1, (Lit.int .i64 e_).wf = true) ∧ (x.2.2.2.2.2.2.2.2.2.1.length ≤ maxLen ∧ x.2.2.2.2.2.2.2.2.2.1.length * 8 ≤ 140737488351232 ∧ ∀ e_ ∈ x.2.2.2.2.2.2.2.2.2.1, (Lit.int .i64 e_).wf = true) ∧ (x.2.2.2.2.2.2.2.2.2.2.1.length ≤ maxLen ∧ x.2.2.2.2.2.2.2.2.2.2.1.length * 8 ≤ 140737488351232 ∧ ∀ e_ ∈ x.2.2.2.2.2.2.2.2.2.2.1, (Lit.int .i64 e_).wf = true) ∧ (x.2.2.2.2.2.2.2.2.2.2.2.1.length ≤ maxLen ∧ x.2.2.2.2.2.2.2.2.2.2.2.1.length * 8 ≤ 140737488351232 ∧ ∀ e_ ∈ x.2.2.2.2.2.2.2.2.2.2.2.1, (Lit.int .i64 e_).wf = true) ∧ (x.2.2.2.2.2.2.2.2.2.2.2.2.length ≤ maxLen ∧ x.2.2.2.2.2.2.2.2.2.2.2.2.length * 24 ≤ 140737488351232 ∧ ∀ e_ ∈ x.2.2.2.2.2.2.2.2.2.2.2.2, Q2s e_)
abbrev K_Op := Int × ByteArray × ByteArray × ByteArray × Q7 × List Int × List Int × List Int × List (Int × Int × Bool) × ByteArray × Int × List Int × Int × List Int × List Int × List Int × List Int × List (List Int) × ByteArray × ByteArray × Q7 × List Int × ByteArray × Q7 × List Int × ByteArray × List (ByteArray × Int × List Int × List Int × List Int × List Int × List (List Int) × Int × List Int × List Int × List Int × List Int × List (List Int))
abbrev Q0J (x : K_Op) : Prop := ((Lit.int .i64 x.1).wf = true) ∧ (x.2.1.size ≤ 140737488351232) ∧ (x.2.2.1.size ≤ 140737488351232) ∧ (x.2.2.2.1.size ≤ 140737488351232) ∧ (Qd x.2.2.2.2.1) ∧ (x.2.2.2.2.2.1.length ≤ maxLen ∧ x.2.2.2.2.2.1.length * 8 ≤ 140737488351232 ∧ ∀ e_ ∈ x.2.2.2.2.2.1, (Lit.int .i64 e_).wf = true) ∧ (x.2.2.2.2.2.2.1.length ≤ maxLen ∧ x.2.2.2.2.2.2.1.length * 8 ≤ 140737488351232 ∧ ∀ e_ ∈ x.2.2.2.2.2.2.1, (Lit.int .i64 e_).wf = true) ∧ (x.2.2.2.2.2.2.2.1.length ≤ maxLen ∧ x.2.2.2.2.2.2.2.1.length * 8 ≤ 140737488351232 ∧ ∀ e_ ∈ x.2.2.2.2.2.2.2.1, (Lit.int .i64 e_).wf = true) ∧ (x.2.2.2.2.2.2.2.2.1.length ≤ maxLen ∧ x.2.2.2.2.2.2.2.2.1.length * 24 ≤ 140737488351232 ∧ ∀ e_ ∈ x.2.2.2.2.2.2.2.2.1, Q5G e_) ∧ (x.2.2.2.2.2.2.2.2.2.1.size ≤ 140737488351232) ∧ ((Lit.int .i64 x.2.2.2.2.2.2.2.2.2.2.1).wf = true) ∧ (x.2.2.2.2.2.2.2.2.2.2.2.1.length ≤ maxLen ∧ x.2.2.2.2.2.2.2.2.2.2.2.1.length * 8 ≤ 140737488351232 ∧ ∀ e_ ∈ x.2.2.2.2.2.2.2.2.2.2.2.1, (Lit.int .i64 e_).wf = true) ∧ ((Lit.int .i64 x.2.2.2.2.2.2.2.2.2.2.2.2.1).wf = true) ∧ (x.2.2.2.2.2.2.2.2.2.2.2.2.2.1.length ≤ maxLen ∧ x.2.2.2.2.2.2.2.2.2.2.2.2.2.1.length * 8 ≤ 140737488351232 ∧ ∀ e_ ∈ x.2.2.2.2.2.2.2.2.2.2.2.2.2.1, (Lit.int .i64 e_).wf = true) ∧ (x.2.2.2.2.2.2.2.2.2.2.2.2.2.2.1.length ≤ maxLen ∧ x.2.2.2.2.2.2.2.2.2.2.2.2.2.2.1.length * 8 ≤ 140737488351232 ∧ ∀ e_ ∈ x.2.2.2.2.2.2.2.2.2.2.2.2.2.2.1, (Lit.int .i64 e_).wf = true) ∧ (x.2.2.2.2.2.2.2.2.2.2.2.2.2.2.2.1.length ≤ maxLen ∧ x.2.2.2.2.2.2.2.2.2.2.2.2.2.2.2.1.length * 8 ≤ 140737488351232 ∧ ∀ e_ ∈ x.2.2.2.2.2.2.2.2.2.2.2.2.2.2.2.1, (Lit.int .i64 e_).wf = true) ∧ (x.2.2.2.2.2.2.2.2.2.2.2.2.2.2.2.2.1.length ≤ maxLen ∧ x.2.2.2.2.2.2.2.2.2.2.2.2.2.2.2.2.1.length * 8 ≤ 140737488351232 ∧ ∀ e_ ∈ x.2.2.2.2.2.2.2.2.2.2.2.2.2.2.2.2.1, (Lit.int .i64 e_).wf = true) ∧ (x.2.2.2.2.2.2.2.2.2.2.2.2.2.2.2.2.2.1.length ≤ maxLen ∧ x.2.2.2.2.2.2.2.2.2.2.2.2.2.2.2.2.2.1.length * 24 ≤ 140737488351232 ∧ ∀ e_ ∈ x.2.2.2.2.2.2.2.2.2.2.2.2.2.2.2.2.2.1, Q2s e_) ∧ (x.2.2.2.2.2.2.2.2.2.2.2.2.2.2.2.2.2.2.1.size ≤ 140737488351232) ∧ (x.2.2.2.2.2.2.2.2.2.2.2.2.2.2.2.2.2.2.2.1.size ≤ 140737488351232) ∧ (Qd x.2.2.2.2.2.2.2.2.2.2.2.2.2.2.2.2.2.2.2.2.1) ∧ (x.2.2.2.2.2.2.2.2.2.2.2.2.2.2.2.2.2.2.2.2.2.1.length ≤ maxLen ∧ x.2.2.2.2.2.2.2.2.2.2.2.2.2.2.2.2.2.2.2.2.2.1.length * 8 ≤ 140737488351232 ∧ ∀ e_ ∈ x.2.2.2.2.2.2.2.2.2.2.2.2.2.2.2.2.2.2.2.2.2.1, (Lit.int .i64 e_).wf = true) ∧ (x.2.2.2.2.2.2.2.2.2.2.2.2.2.2.2.2.2.2.2.2.2.2.1.size ≤ 140737488351232) ∧ (Qd x.2.2.2.2.2.2.2.2.2.2.2.2.2.2.2.2.2.2.2.2.2.2.2.1) ∧ (x.2.2.2.2.2.2.2.2.2.2.2.2.2.2.2.2.2.2.2.2.2.2.2.2.1.length ≤ maxLen ∧ x.2.2.2.2.2.2.2.2.2.2.2.2.2.2.2.2.2.2.2.2.2.2.2.2.1.length * 8 ≤ 140737488351232 ∧ ∀ e_ ∈ x.2.2.2.2.2.2.2.2.2.2.2.2.2.2.2.2.2.2.2.2.2.2.2.2.1, (Lit.int .i64 e_).wf = true) ∧ (x.2.2.2.2.2.2.2.2.2.2.2.2.2.2.2.2.2.2.2.2.2.2.2.2.2.1.size ≤ 140737488351232) ∧ (x.2.2.2.2.2.2.2.2.2.2.2.2.2.2.2.2.2.2.2.2.2.2.2.2.2.2.length ≤ maxLen ∧ x.2.2.2.2.2.2.2.2.2.2.2.2.2.2.2.2.2.2.2.2.2.2.2.2.2.2.length * 272 ≤ 140737488351232 ∧ ∀ e_ ∈ x.2.2.2.2.2.2.2.2.2.2.2.2.2.2.2.2.2.2.2.2.2.2.2.2.2.2, Q12 e_)
abbrev Q6P := Q7 × List Int × List Int × List Int × List (Int × Int × Bool) × ByteArray × Int
abbrev Q4V (x : Q6P) : Prop := (Qd x.1) ∧ (x.2.1.length ≤ maxLen ∧ x.2.1.length * 8 ≤ 140737488351232 ∧ ∀ e_ ∈ x.2.1, (Lit.int .i64 e_).wf = true) ∧ (x.2.2.1.length ≤ maxLen ∧ x.2.2.1.length * 8 ≤ 140737488351232 ∧ ∀ e_ ∈ x.2.2.1, (Lit.int .i64 e_).wf = true) ∧ (x.2.2.2.1.length ≤ maxLen ∧ x.2.2.2.1.length * 8 ≤ 140737488351232 ∧ ∀ e_ ∈ x.2.2.2.1, (Lit.int .i64 e_).wf = true) ∧ (x.2.2.2.2.1.length ≤ maxLen ∧ x.2.2.2.2.1.length * 24 ≤ 140737488351232 ∧ ∀ e_ ∈ x.2.2.2.2.1, Q5G e_) ∧ (x.2.2.2.2.2.1.size ≤ 140737488351232) ∧ ((Lit.int .i64 x.2.2.2.2.2.2).wf = true)
theorem Q7.ind {P : Q7 → Prop} (h : ∀ x : Q7, (∀ m ∈ x.Q1, P m.2.2) → (∀ m ∈ x.Q6, P m) → P x) (x : Q7) : P x :=
  h x (fun m hm => Q7.ind h m.2.2) (fun m hm => Q7.ind h m)
termination_by SizeOf.sizeOf x
decreasing_by
  · obtain ⟨⟩ := x
    have h1 := List.sizeOf_lt_of_mem hm
    obtain ⟨a0, a1, a2⟩ := m
    simp [Q7.Q1] at h1 ⊢
    omega
  · obtain ⟨⟩ := x
    have h1 := List.sizeOf_lt_of_mem hm
    simp [Q7.Q6] at h1 ⊢
    omega
theorem Qnx (a : List ByteArray) (h : a.length ≤ maxLen ∧ a.length * 16 ≤ 140737488351232 ∧ ∀ e_ ∈ a, e_.size ≤ 140737488351232) : ∀ left : Int, 0 ≤ left → left ≤ 1048576 → TotM (Qae a left) := by
  have hl : a.length ≤ 140737488351232 := Qn h.2.1 (by omega)
  have key : ∀ left : Int, 0 ≤ left → left ≤ 1048576 → TotM (Q3C a left 0) := Qav a (fun i left => Q3C a left (i : Int)) (fun left h0 h1 => by
    rw [Q9j, Qi (by omega)]; exact Q00 (by omega) h1) (fun i x left hx hi h0 h1 ih => by
    rw [Q9j, Qj (by omega), Qg hx, Q0, Qh (by omega)]
    have hxs := h.2.2 x (Qo hx)
    repeat' (first | with_reducible refine Q00 ?_ ?_ | with_reducible refine ih _ ?_ ?_ | with_reducible refine Q0C ?_ ?_ ?_ ?_ (fun _ _ => ?_) | with_reducible refine Q0P (fun _ => ?_) | with_reducible refine Q0l ?_ (fun _ _ _ => ?_) | omega))
  intro left hl0 hl1
  rw [Qg1]
  repeat' (first | with_reducible refine Q00 ?_ ?_ | with_reducible refine key _ ?_ ?_ | with_reducible refine Q0C ?_ ?_ ?_ ?_ (fun _ _ => ?_) | with_reducible refine Q0P (fun _ => ?_) | with_reducible refine Q0l ?_ (fun _ _ _ => ?_) | omega)
theorem Q1R (a : List Int) (h : a.length ≤ maxLen ∧ a.length * 8 ≤ 140737488351232 ∧ ∀ e_ ∈ a, (Lit.int .i64 e_).wf = true) : ∀ left : Int, 0 ≤ left → left ≤ 1048576 → TotM (QE a left) := by
  have hl : a.length ≤ 140737488351232 := Qn h.2.1 (by omega)
  intro left hl0 hl1
  rw [Qhg]
  repeat' (first | with_reducible refine Q00 ?_ ?_ | with_reducible refine Q0C ?_ ?_ ?_ ?_ (fun _ _ => ?_) | with_reducible refine Q0P (fun _ => ?_) | with_reducible refine Q0l ?_ (fun _ _ _ => ?_) | omega)
theorem QoB (x : QdS) (h : Q7v x) (h2 : ∀ left : Int, 0 ≤ left → left ≤ 1048576 → TotM (Q11 x.2.2.Q3 x.2.2.Q8 x.2.2.Q2 x.2.2.Qa x.2.2.Q5 x.2.2.Q9 x.2.2.Q1 x.2.2.Q6 x.2.2.Q4 left)) : ∀ left : Int, 0 ≤ left → left ≤ 1048576 → TotM (Q82 x.1 x.2.1 x.2.2.Q3 x.2.2.Q8 x.2.2.Q2 x.2.2.Qa x.2.2.Q5 x.2.2.Q9 x.2.2.Q1 x.2.2.Q6 x.2.2.Q4 left) := by
  intro left hl0 hl1
  rw [QgQ]
  have hs0 := h.1
  repeat' (first | with_reducible refine Q00 ?_ ?_ | with_reducible refine h2 _ ?_ ?_ | with_reducible refine Q0C ?_ ?_ ?_ ?_ (fun _ _ => ?_) | with_reducible refine Q0P (fun _ => ?_) | with_reducible refine Q0l ?_ (fun _ _ _ => ?_) | omega)
theorem Qnt (a : List (ByteArray × Int × Q7)) (h : a.length ≤ maxLen ∧ a.length * 152 ≤ 140737488351232 ∧ ∀ e_ ∈ a, Q7v e_) (hr : ∀ x ∈ a, ∀ left : Int, 0 ≤ left → left ≤ 1048576 → TotM (Q82 x.1 x.2.1 x.2.2.Q3 x.2.2.Q8 x.2.2.Q2 x.2.2.Qa x.2.2.Q5 x.2.2.Q9 x.2.2.Q1 x.2.2.Q6 x.2.2.Q4 left)) : ∀ left : Int, 0 ≤ left → left ≤ 1048576 → TotM (Q9Z a left) := by
  have hl : a.length ≤ 140737488351232 := Qn h.2.1 (by omega)
  have key : ∀ left : Int, 0 ≤ left → left ≤ 1048576 → TotM (Q3D a left 0) := Qav a (fun i left => Q3D a left (i : Int)) (fun left h0 h1 => by
    rw [Q97, Qi (by omega)]; exact Q00 (by omega) h1) (fun i x left hx hi h0 h1 ih => by
    rw [Q97, Qj (by omega), Qg hx, Q0, Qh (by omega)]
    repeat' (first | with_reducible refine Q00 ?_ ?_ | with_reducible refine ih _ ?_ ?_ | with_reducible refine hr x (Qo hx) _ ?_ ?_ | with_reducible refine Q0C ?_ ?_ ?_ ?_ (fun _ _ => ?_) | with_reducible refine Q0P (fun _ => ?_) | with_reducible refine Q0l ?_ (fun _ _ _ => ?_) | omega))
  intro left hl0 hl1
  rw [QfU]
  repeat' (first | with_reducible refine Q00 ?_ ?_ | with_reducible refine key _ ?_ ?_ | with_reducible refine Q0C ?_ ?_ ?_ ?_ (fun _ _ => ?_) | with_reducible refine Q0P (fun _ => ?_) | with_reducible refine Q0l ?_ (fun _ _ _ => ?_) | omega)
theorem Qph (a : List Q7) (h : a.length ≤ maxLen ∧ a.length * 128 ≤ 140737488351232 ∧ ∀ e_ ∈ a, Qd e_) (hr : ∀ x ∈ a, ∀ left : Int, 0 ≤ left → left ≤ 1048576 → TotM (Q11 x.Q3 x.Q8 x.Q2 x.Qa x.Q5 x.Q9 x.Q1 x.Q6 x.Q4 left)) : ∀ left : Int, 0 ≤ left → left ≤ 1048576 → TotM (QbH a left) := by
  have hl : a.length ≤ 140737488351232 := Qn h.2.1 (by omega)
  have key : ∀ left : Int, 0 ≤ left → left ≤ 1048576 → TotM (Q4D a left 0) := Qav a (fun i left => Q4D a left (i : Int)) (fun left h0 h1 => by
    rw [Qas, Qi (by omega)]; exact Q00 (by omega) h1) (fun i x left hx hi h0 h1 ih => by
    rw [Qas, Qj (by omega), Qg hx, Q0, Qh (by omega)]
    repeat' (first | with_reducible refine Q00 ?_ ?_ | with_reducible refine ih _ ?_ ?_ | with_reducible refine hr x (Qo hx) _ ?_ ?_ | with_reducible refine Q0C ?_ ?_ ?_ ?_ (fun _ _ => ?_) | with_reducible refine Q0P (fun _ => ?_) | with_reducible refine Q0l ?_ (fun _ _ _ => ?_) | omega))
  intro left hl0 hl1
  rw [Qil]
  repeat' (first | with_reducible refine Q00 ?_ ?_ | with_reducible refine key _ ?_ ?_ | with_reducible refine Q0C ?_ ?_ ?_ ?_ (fun _ _ => ?_) | with_reducible refine Q0P (fun _ => ?_) | with_reducible refine Q0l ?_ (fun _ _ _ => ?_) | omega)
theorem Qe0 (x : Q7) (h : Qd x) : ∀ left : Int, 0 ≤ left → left ≤ 1048576 → TotM (Q11 x.Q3 x.Q8 x.Q2 x.Qa x.Q5 x.Q9 x.Q1 x.Q6 x.Q4 left) := by
  revert h
  refine Q7.ind (P := fun x => Qd x → ∀ left : Int, 0 ≤ left → left ≤ 1048576 → TotM (Q11 x.Q3 x.Q8 x.Q2 x.Qa x.Q5 x.Q9 x.Q1 x.Q6 x.Q4 left)) ?_ x
  intro x ih_Members ih_Base h
  have h := Qd.out h
  have g0 := (Qnx x.Q5 h.2.2.2.2.1)
  have g1 := (Q1R x.Q9 h.2.2.2.2.2.1)
  have g2 := (Qnt x.Q1 h.2.2.2.2.2.2.1 (fun y hy => (QoB y (h.2.2.2.2.2.2.1.2.2 y hy) (ih_Members y hy (h.2.2.2.2.2.2.1.2.2 y hy).2.2))))
  have g3 := (Qph x.Q6 h.2.2.2.2.2.2.2.1 (fun y hy => (ih_Base y hy (h.2.2.2.2.2.2.2.1.2.2 y hy))))
  intro left hl0 hl1
  rw [QjD]
  repeat' (first | with_reducible refine Q00 ?_ ?_ | with_reducible refine g0 _ ?_ ?_ | with_reducible refine g1 _ ?_ ?_ | with_reducible refine g2 _ ?_ ?_ | with_reducible refine g3 _ ?_ ?_ | with_reducible refine Q0C ?_ ?_ ?_ ?_ (fun _ _ => ?_) | with_reducible refine Q0P (fun _ => ?_) | with_reducible refine Q0l ?_ (fun _ _ _ => ?_) | omega)
abbrev Qa1 := List Int × List Int
abbrev Q8C (x : Qa1) : Prop := (x.1.length ≤ maxLen ∧ x.1.length * 8 ≤ 140737488351232 ∧ ∀ e_ ∈ x.1, (Lit.int .i64 e_).wf = true) ∧ (x.2.length ≤ maxLen ∧ x.2.length * 8 ≤ 140737488351232 ∧ ∀ e_ ∈ x.2, (Lit.int .i64 e_).wf = true)
theorem QoZ (x : Qa1) (h : Q8C x) (h0 : ∀ left : Int, 0 ≤ left → left ≤ 1048576 → TotM (QE x.1 left)) (h1 : ∀ left : Int, 0 ≤ left → left ≤ 1048576 → TotM (QE x.2 left)) : ∀ left : Int, 0 ≤ left → left ≤ 1048576 → TotM (Q7e x.1 x.2 left) := by
  intro left hl0 hl1
  rw [QhS]
  repeat' (first | with_reducible refine Q00 ?_ ?_ | with_reducible refine h0 _ ?_ ?_ | with_reducible refine h1 _ ?_ ?_ | with_reducible refine Q0C ?_ ?_ ?_ ?_ (fun _ _ => ?_) | with_reducible refine Q0P (fun _ => ?_) | with_reducible refine Q0l ?_ (fun _ _ _ => ?_) | omega)
theorem Qn2 (a : List (Int × Int × Bool)) (h : a.length ≤ maxLen ∧ a.length * 24 ≤ 140737488351232 ∧ ∀ e_ ∈ a, Q5G e_) : ∀ left : Int, 0 ≤ left → left ≤ 1048576 → TotM (Q7k a left) := by
  have hl : a.length ≤ 140737488351232 := Qn h.2.1 (by omega)
  intro left hl0 hl1
  rw [Qb9]
  repeat' (first | with_reducible refine Q00 ?_ ?_ | with_reducible refine Q0C ?_ ?_ ?_ ?_ (fun _ _ => ?_) | with_reducible refine Q0P (fun _ => ?_) | with_reducible refine Q0l ?_ (fun _ _ _ => ?_) | omega)
theorem Qnn (x : Q6P) (h : Q4V x) (h0 : ∀ left : Int, 0 ≤ left → left ≤ 1048576 → TotM (Q11 x.1.Q3 x.1.Q8 x.1.Q2 x.1.Qa x.1.Q5 x.1.Q9 x.1.Q1 x.1.Q6 x.1.Q4 left)) (h1 : ∀ left : Int, 0 ≤ left → left ≤ 1048576 → TotM (Q7e x.2.1 x.2.2.1 left)) (h2 : ∀ left : Int, 0 ≤ left → left ≤ 1048576 → TotM (QE x.2.2.2.1 left)) (h3 : ∀ left : Int, 0 ≤ left → left ≤ 1048576 → TotM (Q7k x.2.2.2.2.1 left)) : ∀ left : Int, 0 ≤ left → left ≤ 1048576 → TotM (Q3V x.1.Q3 x.1.Q8 x.1.Q2 x.1.Qa x.1.Q5 x.1.Q9 x.1.Q1 x.1.Q6 x.1.Q4 x.2.1 x.2.2.1 x.2.2.2.1 x.2.2.2.2.1 x.2.2.2.2.2.1 x.2.2.2.2.2.2 left) := by
  intro left hl0 hl1
  rw [Qb4]
  have hs0 := h.2.2.2.2.2.1
  repeat' (first | with_reducible refine Q00 ?_ ?_ | with_reducible refine h0 _ ?_ ?_ | with_reducible refine h1 _ ?_ ?_ | with_reducible refine h2 _ ?_ ?_ | with_reducible refine h3 _ ?_ ?_ | with_reducible refine Q0C ?_ ?_ ?_ ?_ (fun _ _ => ?_) | with_reducible refine Q0P (fun _ => ?_) | with_reducible refine Q0l ?_ (fun _ _ _ => ?_) | omega)
abbrev Q51 := Int × List Int × List Int × List Int × List Int × List (List Int)
abbrev Q3z (x : Q51) : Prop := ((Lit.int .i64 x.1).wf = true) ∧ (x.2.1.length ≤ maxLen ∧ x.2.1.length * 8 ≤ 140737488351232 ∧ ∀ e_ ∈ x.2.1, (Lit.int .i64 e_).wf = true) ∧ (x.2.2.1.length ≤ maxLen ∧ x.2.2.1.length * 8 ≤ 140737488351232 ∧ ∀ e_ ∈ x.2.2.1, (Lit.int .i64 e_).wf = true) ∧ (x.2.2.2.1.length ≤ maxLen ∧ x.2.2.2.1.length * 8 ≤ 140737488351232 ∧ ∀ e_ ∈ x.2.2.2.1, (Lit.int .i64 e_).wf = true) ∧ (x.2.2.2.2.1.length ≤ maxLen ∧ x.2.2.2.2.1.length * 8 ≤ 140737488351232 ∧ ∀ e_ ∈ x.2.2.2.2.1, (Lit.int .i64 e_).wf = true) ∧ (x.2.2.2.2.2.length ≤ maxLen ∧ x.2.2.2.2.2.length * 24 ≤ 140737488351232 ∧ ∀ e_ ∈ x.2.2.2.2.2, Q2s e_)
theorem Qpm (x : Q9W) (h : Q2s x) (h0 : ∀ left : Int, 0 ≤ left → left ≤ 1048576 → TotM (QE x left)) : ∀ left : Int, 0 ≤ left → left ≤ 1048576 → TotM (Q6M x left) := by
  intro left hl0 hl1
  rw [Qiq]
  repeat' (first | with_reducible refine Q00 ?_ ?_ | with_reducible refine h0 _ ?_ ?_ | with_reducible refine Q0C ?_ ?_ ?_ ?_ (fun _ _ => ?_) | with_reducible refine Q0P (fun _ => ?_) | with_reducible refine Q0l ?_ (fun _ _ _ => ?_) | omega)
theorem QoG (a : List (List Int)) (h : a.length ≤ maxLen ∧ a.length * 24 ≤ 140737488351232 ∧ ∀ e_ ∈ a, Q2s e_) (hr : ∀ x ∈ a, ∀ left : Int, 0 ≤ left → left ≤ 1048576 → TotM (Q6M x left)) : ∀ left : Int, 0 ≤ left → left ≤ 1048576 → TotM (Q8c a left) := by
  have hl : a.length ≤ 140737488351232 := Qn h.2.1 (by omega)
  have key : ∀ left : Int, 0 ≤ left → left ≤ 1048576 → TotM (Q4a a left 0) := Qav a (fun i left => Q4a a left (i : Int)) (fun left h0 h1 => by
    rw [Q9B, Qi (by omega)]; exact Q00 (by omega) h1) (fun i x left hx hi h0 h1 ih => by
    rw [Q9B, Qj (by omega), Qg hx, Q0, Qh (by omega)]
    repeat' (first | with_reducible refine Q00 ?_ ?_ | with_reducible refine ih _ ?_ ?_ | with_reducible refine hr x (Qo hx) _ ?_ ?_ | with_reducible refine Q0C ?_ ?_ ?_ ?_ (fun _ _ => ?_) | with_reducible refine Q0P (fun _ => ?_) | with_reducible refine Q0l ?_ (fun _ _ _ => ?_) | omega))
  intro left hl0 hl1
  rw [QgL]
  repeat' (first | with_reducible refine Q00 ?_ ?_ | with_reducible refine key _ ?_ ?_ | with_reducible refine Q0C ?_ ?_ ?_ ?_ (fun _ _ => ?_) | with_reducible refine Q0P (fun _ => ?_) | with_reducible refine Q0l ?_ (fun _ _ _ => ?_) | omega)
theorem QkH (x : Q51) (h : Q3z x) (h1 : ∀ left : Int, 0 ≤ left → left ≤ 1048576 → TotM (QE x.2.1 left)) (h2 : ∀ left : Int, 0 ≤ left → left ≤ 1048576 → TotM (QE x.2.2.1 left)) (h3 : ∀ left : Int, 0 ≤ left → left ≤ 1048576 → TotM (QE x.2.2.2.1 left)) (h4 : ∀ left : Int, 0 ≤ left → left ≤ 1048576 → TotM (QE x.2.2.2.2.1 left)) (h5 : ∀ left : Int, 0 ≤ left → left ≤ 1048576 → TotM (Q8c x.2.2.2.2.2 left)) : ∀ left : Int, 0 ≤ left → left ≤ 1048576 → TotM (Q18 x.1 x.2.1 x.2.2.1 x.2.2.2.1 x.2.2.2.2.1 x.2.2.2.2.2 left) := by
  intro left hl0 hl1
  rw [QeM]
  repeat' (first | with_reducible refine Q00 ?_ ?_ | with_reducible refine h1 _ ?_ ?_ | with_reducible refine h2 _ ?_ ?_ | with_reducible refine h3 _ ?_ ?_ | with_reducible refine h4 _ ?_ ?_ | with_reducible refine h5 _ ?_ ?_ | with_reducible refine Q0C ?_ ?_ ?_ ?_ (fun _ _ => ?_) | with_reducible refine Q0P (fun _ => ?_) | with_reducible refine Q0l ?_ (fun _ _ _ => ?_) | omega)
abbrev Q50 := ByteArray × Q7 × List Int × ByteArray
abbrev Q4y (x : Q50) : Prop := (x.1.size ≤ 140737488351232) ∧ (Qd x.2.1) ∧ (x.2.2.1.length ≤ maxLen ∧ x.2.2.1.length * 8 ≤ 140737488351232 ∧ ∀ e_ ∈ x.2.2.1, (Lit.int .i64 e_).wf = true) ∧ (x.2.2.2.size ≤ 140737488351232)
abbrev Qa3 := Q7 × List Int × ByteArray
abbrev Q8A (x : Qa3) : Prop := (Qd x.1) ∧ (x.2.1.length ≤ maxLen ∧ x.2.1.length * 8 ≤ 140737488351232 ∧ ∀ e_ ∈ x.2.1, (Lit.int .i64 e_).wf = true) ∧ (x.2.2.size ≤ 140737488351232)
theorem Qp2 (x : Qa3) (h : Q8A x) (h0 : ∀ left : Int, 0 ≤ left → left ≤ 1048576 → TotM (Q11 x.1.Q3 x.1.Q8 x.1.Q2 x.1.Qa x.1.Q5 x.1.Q9 x.1.Q1 x.1.Q6 x.1.Q4 left)) (h1 : ∀ left : Int, 0 ≤ left → left ≤ 1048576 → TotM (QE x.2.1 left)) : ∀ left : Int, 0 ≤ left → left ≤ 1048576 → TotM (Q5k x.1.Q3 x.1.Q8 x.1.Q2 x.1.Qa x.1.Q5 x.1.Q9 x.1.Q1 x.1.Q6 x.1.Q4 x.2.1 x.2.2 left) := by
  intro left hl0 hl1
  rw [QcB]
  have hs0 := h.2.2
  repeat' (first | with_reducible refine Q00 ?_ ?_ | with_reducible refine h0 _ ?_ ?_ | with_reducible refine h1 _ ?_ ?_ | with_reducible refine Q0C ?_ ?_ ?_ ?_ (fun _ _ => ?_) | with_reducible refine Q0P (fun _ => ?_) | with_reducible refine Q0l ?_ (fun _ _ _ => ?_) | omega)
theorem QkB (x : Q50) (h : Q4y x) (h1 : ∀ left : Int, 0 ≤ left → left ≤ 1048576 → TotM (Q5k x.2.1.Q3 x.2.1.Q8 x.2.1.Q2 x.2.1.Qa x.2.1.Q5 x.2.1.Q9 x.2.1.Q1 x.2.1.Q6 x.2.1.Q4 x.2.2.1 x.2.2.2 left)) : ∀ left : Int, 0 ≤ left → left ≤ 1048576 → TotM (Q4l x.1 x.2.1.Q3 x.2.1.Q8 x.2.1.Q2 x.2.1.Qa x.2.1.Q5 x.2.1.Q9 x.2.1.Q1 x.2.1.Q6 x.2.1.Q4 x.2.2.1 x.2.2.2 left) := by
  intro left hl0 hl1
  rw [Q9D]
  have hs0 := h.1
  repeat' (first | with_reducible refine Q00 ?_ ?_ | with_reducible refine h1 _ ?_ ?_ | with_reducible refine Q0C ?_ ?_ ?_ ?_ (fun _ _ => ?_) | with_reducible refine Q0P (fun _ => ?_) | with_reducible refine Q0l ?_ (fun _ _ _ => ?_) | omega)
abbrev Q6N := Q7 × List Int × ByteArray × List (ByteArray × Int × List Int × List Int × List Int × List Int × List (List Int) × Int × List Int × List Int × List Int × List Int × List (List Int))
abbrev Q54 (x : Q6N) : Prop := (Qd x.1) ∧ (x.2.1.length ≤ maxLen ∧ x.2.1.length * 8 ≤ 140737488351232 ∧ ∀ e_ ∈ x.2.1, (Lit.int .i64 e_).wf = true) ∧ (x.2.2.1.size ≤ 140737488351232) ∧ (x.2.2.2.length ≤ maxLen ∧ x.2.2.2.length * 272 ≤ 140737488351232 ∧ ∀ e_ ∈ x.2.2.2, Q12 e_)
theorem Qnw (x : Q7d) (h : Q12 x) (h1 : ∀ left : Int, 0 ≤ left → left ≤ 1048576 → TotM (Q18 x.2.1 x.2.2.1 x.2.2.2.1 x.2.2.2.2.1 x.2.2.2.2.2.1 x.2.2.2.2.2.2.1 left)) (h2 : ∀ left : Int, 0 ≤ left → left ≤ 1048576 → TotM (Q18 x.2.2.2.2.2.2.2.1 x.2.2.2.2.2.2.2.2.1 x.2.2.2.2.2.2.2.2.2.1 x.2.2.2.2.2.2.2.2.2.2.1 x.2.2.2.2.2.2.2.2.2.2.2.1 x.2.2.2.2.2.2.2.2.2.2.2.2 left)) : ∀ left : Int, 0 ≤ left → left ≤ 1048576 → TotM (Q41 x.1 x.2.1 x.2.2.1 x.2.2.2.1 x.2.2.2.2.1 x.2.2.2.2.2.1 x.2.2.2.2.2.2.1 x.2.2.2.2.2.2.2.1 x.2.2.2.2.2.2.2.2.1 x.2.2.2.2.2.2.2.2.2.1 x.2.2.2.2.2.2.2.2.2.2.1 x.2.2.2.2.2.2.2.2.2.2.2.1 x.2.2.2.2.2.2.2.2.2.2.2.2 left) := by
  intro left hl0 hl1
  rw [Qbg]
  have hs0 := h.1
  repeat' (first | with_reducible refine Q00 ?_ ?_ | with_reducible refine h1 _ ?_ ?_ | with_reducible refine h2 _ ?_ ?_ | with_reducible refine Q0C ?_ ?_ ?_ ?_ (fun _ _ => ?_) | with_reducible refine Q0P (fun _ => ?_) | with_reducible refine Q0l ?_ (fun _ _ _ => ?_) | omega)
theorem Qmc (a : List (ByteArray × Int × List Int × List Int × List Int × List Int × List (List Int) × Int × List Int × List Int × List Int × List Int × List (List Int))) (h : a.length ≤ maxLen ∧ a.length * 272 ≤ 140737488351232 ∧ ∀ e_ ∈ a, Q12 e_) (hr : ∀ x ∈ a, ∀ left : Int, 0 ≤ left → left ≤ 1048576 → TotM (Q41 x.1 x.2.1 x.2.2.1 x.2.2.2.1 x.2.2.2.2.1 x.2.2.2.2.2.1 x.2.2.2.2.2.2.1 x.2.2.2.2.2.2.2.1 x.2.2.2.2.2.2.2.2.1 x.2.2.2.2.2.2.2.2.2.1 x.2.2.2.2.2.2.2.2.2.2.1 x.2.2.2.2.2.2.2.2.2.2.2.1 x.2.2.2.2.2.2.2.2.2.2.2.2 left)) : ∀ left : Int, 0 ≤ left → left ≤ 1048576 → TotM (Q4N a left) := by
  have hl : a.length ≤ 140737488351232 := Qn h.2.1 (by omega)
  have key : ∀ left : Int, 0 ≤ left → left ≤ 1048576 → TotM (Q2p a left 0) := Qav a (fun i left => Q2p a left (i : Int)) (fun left h0 h1 => by
    rw [Q3r, Qi (by omega)]; exact Q00 (by omega) h1) (fun i x left hx hi h0 h1 ih => by
    rw [Q3r, Qj (by omega), Qg hx, Q0, Qh (by omega)]
    repeat' (first | with_reducible refine Q00 ?_ ?_ | with_reducible refine ih _ ?_ ?_ | with_reducible refine hr x (Qo hx) _ ?_ ?_ | with_reducible refine Q0C ?_ ?_ ?_ ?_ (fun _ _ => ?_) | with_reducible refine Q0P (fun _ => ?_) | with_reducible refine Q0l ?_ (fun _ _ _ => ?_) | omega))
  intro left hl0 hl1
  rw [QaO]
  repeat' (first | with_reducible refine Q00 ?_ ?_ | with_reducible refine key _ ?_ ?_ | with_reducible refine Q0C ?_ ?_ ?_ ?_ (fun _ _ => ?_) | with_reducible refine Q0P (fun _ => ?_) | with_reducible refine Q0l ?_ (fun _ _ _ => ?_) | omega)
theorem Qni (x : Q6N) (h : Q54 x) (h0 : ∀ left : Int, 0 ≤ left → left ≤ 1048576 → TotM (Q11 x.1.Q3 x.1.Q8 x.1.Q2 x.1.Qa x.1.Q5 x.1.Q9 x.1.Q1 x.1.Q6 x.1.Q4 left)) (h1 : ∀ left : Int, 0 ≤ left → left ≤ 1048576 → TotM (QE x.2.1 left)) (h3 : ∀ left : Int, 0 ≤ left → left ≤ 1048576 → TotM (Q4N x.2.2.2 left)) : ∀ left : Int, 0 ≤ left → left ≤ 1048576 → TotM (Q3Z x.1.Q3 x.1.Q8 x.1.Q2 x.1.Qa x.1.Q5 x.1.Q9 x.1.Q1 x.1.Q6 x.1.Q4 x.2.1 x.2.2.1 x.2.2.2 left) := by
  intro left hl0 hl1
  rw [Qb7]
  have hs0 := h.2.2.1
  repeat' (first | with_reducible refine Q00 ?_ ?_ | with_reducible refine h0 _ ?_ ?_ | with_reducible refine h1 _ ?_ ?_ | with_reducible refine h3 _ ?_ ?_ | with_reducible refine Q0C ?_ ?_ ?_ ?_ (fun _ _ => ?_) | with_reducible refine Q0P (fun _ => ?_) | with_reducible refine Q0l ?_ (fun _ _ _ => ?_) | omega)
theorem QrS (x : K_Op) (h : Q0J x) (h4 : ∀ left : Int, 0 ≤ left → left ≤ 1048576 → TotM (Q3V x.2.2.2.2.1.Q3 x.2.2.2.2.1.Q8 x.2.2.2.2.1.Q2 x.2.2.2.2.1.Qa x.2.2.2.2.1.Q5 x.2.2.2.2.1.Q9 x.2.2.2.2.1.Q1 x.2.2.2.2.1.Q6 x.2.2.2.2.1.Q4 x.2.2.2.2.2.1 x.2.2.2.2.2.2.1 x.2.2.2.2.2.2.2.1 x.2.2.2.2.2.2.2.2.1 x.2.2.2.2.2.2.2.2.2.1 x.2.2.2.2.2.2.2.2.2.2.1 left)) (h5 : ∀ left : Int, 0 ≤ left → left ≤ 1048576 → TotM (QE x.2.2.2.2.2.2.2.2.2.2.2.1 left)) (h6 : ∀ left : Int, 0 ≤ left → left ≤ 1048576 → TotM (Q18 x.2.2.2.2.2.2.2.2.2.2.2.2.1 x.2.2.2.2.2.2.2.2.2.2.2.2.2.1 x.2.2.2.2.2.2.2.2.2.2.2.2.2.2.1 x.2.2.2.2.2.2.2.2.2.2.2.2.2.2.2.1 x.2.2.2.2.2.2.2.2.2.2.2.2.2.2.2.2.1 x.2.2.2.2.2.2.2.2.2.2.2.2.2.2.2.2.2.1 left)) (h8 : ∀ left : Int, 0 ≤ left → left ≤ 1048576 → TotM (Q4l x.2.2.2.2.2.2.2.2.2.2.2.2.2.2.2.2.2.2.2.1 x.2.2.2.2.2.2.2.2.2.2.2.2.2.2.2.2.2.2.2.2.1.Q3 x.2.2.2.2.2.2.2.2.2.2.2.2.2.2.2.2.2.2.2.2.1.Q8 x.2.2.2.2.2.2.2.2.2.2.2.2.2.2.2.2.2.2.2.2.1.Q2 x.2.2.2.2.2.2.2.2.2.2.2.2.2.2.2.2.2.2.2.2.1.Qa x.2.2.2.2.2.2.2.2.2.2.2.2.2.2.2.2.2.2.2.2.1.Q5 x.2.2.2.2.2.2.2.2.2.2.2.2.2.2.2.2.2.2.2.2.1.Q9 x.2.2.2.2.2.2.2.2.2.2.2.2.2.2.2.2.2.2.2.2.1.Q1 x.2.2.2.2.2.2.2.2.2.2.2.2.2.2.2.2.2.2.2.2.1.Q6 x.2.2.2.2.2.2.2.2.2.2.2.2.2.2.2.2.2.2.2.2.1.Q4 x.2.2.2.2.2.2.2.2.2.2.2.2.2.2.2.2.2.2.2.2.2.1 x.2.2.2.2.2.2.2.2.2.2.2.2.2.2.2.2.2.2.2.2.2.2.1 left)) (h9 : ∀ left : Int, 0 ≤ left → left ≤ 1048576 → TotM (Q3Z x.2.2.2.2.2.2.2.2.2.2.2.2.2.2.2.2.2.2.2.2.2.2.2.1.Q3 x.2.2.2.2.2.2.2.2.2.2.2.2.2.2.2.2.2.2.2.2.2.2.2.1.Q8 x.2.2.2.2.2.2.2.2.2.2.2.2.2.2.2.2.2.2.2.2.2.2.2.1.Q2 x.2.2.2.2.2.2.2.2.2.2.2.2.2.2.2.2.2.2.2.2.2.2.2.1.Qa x.2.2.2.2.2.2.2.2.2.2.2.2.2.2.2.2.2.2.2.2.2.2.2.1.Q5 x.2.2.2.2.2.2.2.2.2.2.2.2.2.2.2.2.2.2.2.2.2.2.2.1.Q9 x.2.2.2.2.2.2.2.2.2.2.2.2.2.2.2.2.2.2.2.2.2.2.2.1.Q1 x.2.2.2.2.2.2.2.2.2.2.2.2.2.2.2.2.2.2.2.2.2.2.2.1.Q6 x.2.2.2.2.2.2.2.2.2.2.2.2.2.2.2.2.2.2.2.2.2.2.2.1.Q4 x.2.2.2.2.2.2.2.2.2.2.2.2.2.2.2.2.2.2.2.2.2.2.2.2.1 x.2.2.2.2.2.2.2.2.2.2.2.2.2.2.2.2.2.2.2.2.2.2.2.2.2.1 x.2.2.2.2.2.2.2.2.2.2.2.2.2.2.2.2.2.2.2.2.2.2.2.2.2.2 left)) : ∀ left : Int, 0 ≤ left → left ≤ 1048576 → TotM (QaC x.1 x.2.1 x.2.2.1 x.2.2.2.1 x.2.2.2.2.1.Q3 x.2.2.2.2.1.Q8 x.2.2.2.2.1.Q2 x.2.2.2.2.1.Qa x.2.2.2.2.1.Q5 x.2.2.2.2.1.Q9 x.2.2.2.2.1.Q1 x.2.2.2.2.1.Q6 x.2.2.2.2.1.Q4 x.2.2.2.2.2.1 x.2.2.2.2.2.2.1 x.2.2.2.2.2.2.2.1 x.2.2.2.2.2.2.2.2.1 x.2.2.2.2.2.2.2.2.2.1 x.2.2.2.2.2.2.2.2.2.2.1 x.2.2.2.2.2.2.2.2.2.2.2.1 x.2.2.2.2.2.2.2.2.2.2.2.2.1 x.2.2.2.2.2.2.2.2.2.2.2.2.2.1 x.2.2.2.2.2.2.2.2.2.2.2.2.2.2.1 x.2.2.2.2.2.2.2.2.2.2.2.2.2.2.2.1 x.2.2.2.2.2.2.2.2.2.2.2.2.2.2.2.2.1 x.2.2.2.2.2.2.2.2.2.2.2.2.2.2.2.2.2.1 x.2.2.2.2.2.2.2.2.2.2.2.2.2.2.2.2.2.2.1 x.2.2.2.2.2.2.2.2.2.2.2.2.2.2.2.2.2.2.2.1 x.2.2.2.2.2.2.2.2.2.2.2.2.2.2.2.2.2.2.2.2.1.Q3 x.2.2.2.2.2.2.2.2.2.2.2.2.2.2.2.2.2.2.2.2.1.Q8 x.2.2.2.2.2.2.2.2.2.2.2.2.2.2.2.2.2.2.2.2.1.Q2 x.2.2.2.2.2.2.2.2.2.2.2.2.2.2.2.2.2.2.2.2.1.Qa x.2.2.2.2.2.2.2.2.2.2.2.2.2.2.2.2.2.2.2.2.1.Q5 x.2.2.2.2.2.2.2.2.2.2.2.2.2.2.2.2.2.2.2.2.1.Q9 x.2.2.2.2.2.2.2.2.2.2.2.2.2.2.2.2.2.2.2.2.1.Q1 x.2.2.2.2.2.2.2.2.2.2.2.2.2.2.2.2.2.2.2.2.1.Q6 x.2.2.2.2.2.2.2.2.2.2.2.2.2.2.2.2.2.2.2.2.1.Q4 x.2.2.2.2.2.2.2.2.2.2.2.2.2.2.2.2.2.2.2.2.2.1 x.2.2.2.2.2.2.2.2.2.2.2.2.2.2.2.2.2.2.2.2.2.2.1 x.2.2.2.2.2.2.2.2.2.2.2.2.2.2.2.2.2.2.2.2.2.2.2.1.Q3 x.2.2.2.2.2.2.2.2.2.2.2.2.2.2.2.2.2.2.2.2.2.2.2.1.Q8 x.2.2.2.2.2.2.2.2.2.2.2.2.2.2.2.2.2.2.2.2.2.2.2.1.Q2 x.2.2.2.2.2.2.2.2.2.2.2.2.2.2.2.2.2.2.2.2.2.2.2.1.Qa x.2.2.2.2.2.2.2.2.2.2.2.2.2.2.2.2.2.2.2.2.2.2.2.1.Q5 x.2.2.2.2.2.2.2.2.2.2.2.2.2.2.2.2.2.2.2.2.2.2.2.1.Q9 x.2.2.2.2.2.2.2.2.2.2.2.2.2.2.2.2.2.2.2.2.2.2.2.1.Q1 x.2.2.2.2.2.2.2.2.2.2.2.2.2.2.2.2.2.2.2.2.2.2.2.1.Q6 x.2.2.2.2.2.2.2.2.2.2.2.2.2.2.2.2.2.2.2.2.2.2.2.1.Q4 x.2.2.2.2.2.2.2.2.2.2.2.2.2.2.2.2.2.2.2.2.2.2.2.2.1 x.2.2.2.2.2.2.2.2.2.2.2.2.2.2.2.2.2.2.2.2.2.2.2.2.2.1 x.2.2.2.2.2.2.2.2.2.2.2.2.2.2.2.2.2.2.2.2.2.2.2.2.2.2 left) := by
  intro left hl0 hl1
  rw [Qfe]
  have hs0 := h.2.1
  have hs1 := h.2.2.1
  have hs2 := h.2.2.2.1
  have hs3 := h.2.2.2.2.2.2.2.2.2.2.2.2.2.2.2.2.2.2.1
  repeat' (first | with_reducible refine Q00 ?_ ?_ | with_reducible refine h4 _ ?_ ?_ | with_reducible refine h5 _ ?_ ?_ | with_reducible refine h6 _ ?_ ?_ | with_reducible refine h8 _ ?_ ?_ | with_reducible refine h9 _ ?_ ?_ | with_reducible refine Q0C ?_ ?_ ?_ ?_ (fun _ _ => ?_) | with_reducible refine Q0P (fun _ => ?_) | with_reducible refine Q0l ?_ (fun _ _ _ => ?_) | omega)
theorem QjZ (x : Qa1) (h : Q8C x) : ∀ left : Int, 0 ≤ left → left ≤ 1048576 → TotM (Q7e x.1 x.2 left) := (QoZ x h (Q1R x.1 h.1) (Q1R x.2 h.2))
theorem Qgz (x : Q6P) (h : Q4V x) : ∀ left : Int, 0 ≤ left → left ≤ 1048576 → TotM (Q3V x.1.Q3 x.1.Q8 x.1.Q2 x.1.Qa x.1.Q5 x.1.Q9 x.1.Q1 x.1.Q6 x.1.Q4 x.2.1 x.2.2.1 x.2.2.2.1 x.2.2.2.2.1 x.2.2.2.2.2.1 x.2.2.2.2.2.2 left) := (Qnn x h (Qe0 x.1 h.1) (QjZ (x.2.1, x.2.2.1) ⟨h.2.1, h.2.2.1⟩) (Q1R x.2.2.2.1 h.2.2.2.1) (Qn2 x.2.2.2.2.1 h.2.2.2.2.1))
theorem QpO (x : Q9W) (h : Q2s x) : ∀ left : Int, 0 ≤ left → left ≤ 1048576 → TotM (Q6M x left) := (Qpm x h (Q1R x h))
theorem Q89 (x : Q51) (h : Q3z x) : ∀ left : Int, 0 ≤ left → left ≤ 1048576 → TotM (Q18 x.1 x.2.1 x.2.2.1 x.2.2.2.1 x.2.2.2.2.1 x.2.2.2.2.2 left) := (QkH x h (Q1R x.2.1 h.2.1) (Q1R x.2.2.1 h.2.2.1) (Q1R x.2.2.2.1 h.2.2.2.1) (Q1R x.2.2.2.2.1 h.2.2.2.2.1) (QoG x.2.2.2.2.2 h.2.2.2.2.2 (fun y hy => (QpO y (h.2.2.2.2.2.2.2 y hy)))))
theorem Qpx (x : Qa3) (h : Q8A x) : ∀ left : Int, 0 ≤ left → left ≤ 1048576 → TotM (Q5k x.1.Q3 x.1.Q8 x.1.Q2 x.1.Qa x.1.Q5 x.1.Q9 x.1.Q1 x.1.Q6 x.1.Q4 x.2.1 x.2.2 left) := (Qp2 x h (Qe0 x.1 h.1) (Q1R x.2.1 h.2.1))
theorem Qet (x : Q50) (h : Q4y x) : ∀ left : Int, 0 ≤ left → left ≤ 1048576 → TotM (Q4l x.1 x.2.1.Q3 x.2.1.Q8 x.2.1.Q2 x.2.1.Qa x.2.1.Q5 x.2.1.Q9 x.2.1.Q1 x.2.1.Q6 x.2.1.Q4 x.2.2.1 x.2.2.2 left) := (QkB x h (Qpx (x.2.1, x.2.2.1, x.2.2.2) ⟨h.2.1, h.2.2.1, h.2.2.2⟩))
theorem QgD (x : Q7d) (h : Q12 x) : ∀ left : Int, 0 ≤ left → left ≤ 1048576 → TotM (Q41 x.1 x.2.1 x.2.2.1 x.2.2.2.1 x.2.2.2.2.1 x.2.2.2.2.2.1 x.2.2.2.2.2.2.1 x.2.2.2.2.2.2.2.1 x.2.2.2.2.2.2.2.2.1 x.2.2.2.2.2.2.2.2.2.1 x.2.2.2.2.2.2.2.2.2.2.1 x.2.2.2.2.2.2.2.2.2.2.2.1 x.2.2.2.2.2.2.2.2.2.2.2.2 left) := (Qnw x h (Q89 (x.2.1, x.2.2.1, x.2.2.2.1, x.2.2.2.2.1, x.2.2.2.2.2.1, x.2.2.2.2.2.2.1) ⟨h.2.1, h.2.2.1, h.2.2.2.1, h.2.2.2.2.1, h.2.2.2.2.2.1, h.2.2.2.2.2.2.1⟩) (Q89 (x.2.2.2.2.2.2.2.1, x.2.2.2.2.2.2.2.2.1, x.2.2.2.2.2.2.2.2.2.1, x.2.2.2.2.2.2.2.2.2.2.1, x.2.2.2.2.2.2.2.2.2.2.2.1, x.2.2.2.2.2.2.2.2.2.2.2.2) ⟨h.2.2.2.2.2.2.2.1, h.2.2.2.2.2.2.2.2.1, h.2.2.2.2.2.2.2.2.2.1, h.2.2.2.2.2.2.2.2.2.2.1, h.2.2.2.2.2.2.2.2.2.2.2.1, h.2.2.2.2.2.2.2.2.2.2.2.2⟩))
theorem Qn7 (x : Q6N) (h : Q54 x) : ∀ left : Int, 0 ≤ left → left ≤ 1048576 → TotM (Q3Z x.1.Q3 x.1.Q8 x.1.Q2 x.1.Qa x.1.Q5 x.1.Q9 x.1.Q1 x.1.Q6 x.1.Q4 x.2.1 x.2.2.1 x.2.2.2 left) := (Qni x h (Qe0 x.1 h.1) (Q1R x.2.1 h.2.1) (Qmc x.2.2.2 h.2.2.2 (fun y hy => (QgD y (h.2.2.2.2.2 y hy)))))
theorem QrN (x : K_Op) (h : Q0J x) : ∀ left : Int, 0 ≤ left → left ≤ 1048576 → TotM (QaC x.1 x.2.1 x.2.2.1 x.2.2.2.1 x.2.2.2.2.1.Q3 x.2.2.2.2.1.Q8 x.2.2.2.2.1.Q2 x.2.2.2.2.1.Qa x.2.2.2.2.1.Q5 x.2.2.2.2.1.Q9 x.2.2.2.2.1.Q1 x.2.2.2.2.1.Q6 x.2.2.2.2.1.Q4 x.2.2.2.2.2.1 x.2.2.2.2.2.2.1 x.2.2.2.2.2.2.2.1 x.2.2.2.2.2.2.2.2.1 x.2.2.2.2.2.2.2.2.2.1 x.2.2.2.2.2.2.2.2.2.2.1 x.2.2.2.2.2.2.2.2.2.2.2.1 x.2.2.2.2.2.2.2.2.2.2.2.2.1 x.2.2.2.2.2.2.2.2.2.2.2.2.2.1 x.2.2.2.2.2.2.2.2.2.2.2.2.2.2.1 x.2.2.2.2.2.2.2.2.2.2.2.2.2.2.2.1 x.2.2.2.2.2.2.2.2.2.2.2.2.2.2.2.2.1 x.2.2.2.2.2.2.2.2.2.2.2.2.2.2.2.2.2.1 x.2.2.2.2.2.2.2.2.2.2.2.2.2.2.2.2.2.2.1 x.2.2.2.2.2.2.2.2.2.2.2.2.2.2.2.2.2.2.2.1 x.2.2.2.2.2.2.2.2.2.2.2.2.2.2.2.2.2.2.2.2.1.Q3 x.2.2.2.2.2.2.2.2.2.2.2.2.2.2.2.2.2.2.2.2.1.Q8 x.2.2.2.2.2.2.2.2.2.2.2.2.2.2.2.2.2.2.2.2.1.Q2 x.2.2.2.2.2.2.2.2.2.2.2.2.2.2.2.2.2.2.2.2.1.Qa x.2.2.2.2.2.2.2.2.2.2.2.2.2.2.2.2.2.2.2.2.1.Q5 x.2.2.2.2.2.2.2.2.2.2.2.2.2.2.2.2.2.2.2.2.1.Q9 x.2.2.2.2.2.2.2.2.2.2.2.2.2.2.2.2.2.2.2.2.1.Q1 x.2.2.2.2.2.2.2.2.2.2.2.2.2.2.2.2.2.2.2.2.1.Q6 x.2.2.2.2.2.2.2.2.2.2.2.2.2.2.2.2.2.2.2.2.1.Q4 x.2.2.2.2.2.2.2.2.2.2.2.2.2.2.2.2.2.2.2.2.2.1 x.2.2.2.2.2.2.2.2.2.2.2.2.2.2.2.2.2.2.2.2.2.2.1 x.2.2.2.2.2.2.2.2.2.2.2.2.2.2.2.2.2.2.2.2.2.2.2.1.Q3 x.2.2.2.2.2.2.2.2.2.2.2.2.2.2.2.2.2.2.2.2.2.2.2.1.Q8 x.2.2.2.2.2.2.2.2.2.2.2.2.2.2.2.2.2.2.2.2.2.2.2.1.Q2 x.2.2.2.2.2.2.2.2.2.2.2.2.2.2.2.2.2.2.2.2.2.2.2.1.Qa x.2.2.2.2.2.2.2.2.2.2.2.2.2.2.2.2.2.2.2.2.2.2.2.1.Q5 x.2.2.2.2.2.2.2.2.2.2.2.2.2.2.2.2.2.2.2.2.2.2.2.1.Q9 x.2.2.2.2.2.2.2.2.2.2.2.2.2.2.2.2.2.2.2.2.2.2.2.1.Q1 x.2.2.2.2.2.2.2.2.2.2.2.2.2.2.2.2.2.2.2.2.2.2.2.1.Q6 x.2.2.2.2.2.2.2.2.2.2.2.2.2.2.2.2.2.2.2.2.2.2.2.1.Q4 x.2.2.2.2.2.2.2.2.2.2.2.2.2.2.2.2.2.2.2.2.2.2.2.2.1 x.2.2.2.2.2.2.2.2.2.2.2.2.2.2.2.2.2.2.2.2.2.2.2.2.2.1 x.2.2.2.2.2.2.2.2.2.2.2.2.2.2.2.2.2.2.2.2.2.2.2.2.2.2 left) := (QrS x h (Qgz (x.2.2.2.2.1, x.2.2.2.2.2.1, x.2.2.2.2.2.2.1, x.2.2.2.2.2.2.2.1, x.2.2.2.2.2.2.2.2.1, x.2.2.2.2.2.2.2.2.2.1, x.2.2.2.2.2.2.2.2.2.2.1) ⟨h.2.2.2.2.1, h.2.2.2.2.2.1, h.2.2.2.2.2.2.1, h.2.2.2.2.2.2.2.1, h.2.2.2.2.2.2.2.2.1, h.2.2.2.2.2.2.2.2.2.1, h.2.2.2.2.2.2.2.2.2.2.1⟩) (Q1R x.2.2.2.2.2.2.2.2.2.2.2.1 h.2.2.2.2.2.2.2.2.2.2.2.1) (Q89 (x.2.2.2.2.2.2.2.2.2.2.2.2.1, x.2.2.2.2.2.2.2.2.2.2.2.2.2.1, x.2.2.2.2.2.2.2.2.2.2.2.2.2.2.1, x.2.2.2.2.2.2.2.2.2.2.2.2.2.2.2.1, x.2.2.2.2.2.2.2.2.2.2.2.2.2.2.2.2.1, x.2.2.2.2.2.2.2.2.2.2.2.2.2.2.2.2.2.1) ⟨h.2.2.2.2.2.2.2.2.2.2.2.2.1, h.2.2.2.2.2.2.2.2.2.2.2.2.2.1, h.2.2.2.2.2.2.2.2.2.2.2.2.2.2.1, h.2.2.2.2.2.2.2.2.2.2.2.2.2.2.2.1, h.2.2.2.2.2.2.2.2.2.2.2.2.2.2.2.2.1, h.2.2.2.2.2.2.2.2.2.2.2.2.2.2.2.2.2.1⟩) (Qet (x.2.2.2.2.2.2.2.2.2.2.2.2.2.2.2.2.2.2.2.1, x.2.2.2.2.2.2.2.2.2.2.2.2.2.2.2.2.2.2.2.2.1, x.2.2.2.2.2.2.2.2.2.2.2.2.2.2.2.2.2.2.2.2.2.1, x.2.2.2.2.2.2.2.2.2.2.2.2.2.2.2.2.2.2.2.2.2.2.1) ⟨h.2.2.2.2.2.2.2.2.2.2.2.2.2.2.2.2.2.2.2.1, h.2.2.2.2.2.2.2.2.2.2.2.2.2.2.2.2.2.2.2.2.1, h.2.2.2.2.2.2.2.2.2.2.2.2.2.2.2.2.2.2.2.2.2.1, h.2.2.2.2.2.2.2.2.2.2.2.2.2.2.2.2.2.2.2.2.2.2.1⟩) (Qn7 (x.2.2.2.2.2.2.2.2.2.2.2.2.2.2.2.2.2.2.2.2.2.2.2.1, x.2.2.2.2.2.2.2.2.2.2.2.2.2.2.2.2.2.2.2.2.2.2.2.2.1, x.2.2.2.2.2.2.2.2.2.2.2.2.2.2.2.2.2.2.2.2.2.2.2.2.2.1, x.2.2.2.2.2.2.2.2.2.2.2.2.2.2.2.2.2.2.2.2.2.2.2.2.2.2) ⟨h.2.2.2.2.2.2.2.2.2.2.2.2.2.2.2.2.2.2.2.2.2.2.2.1, h.2.2.2.2.2.2.2.2.2.2.2.2.2.2.2.2.2.2.2.2.2.2.2.2.1, h.2.2.2.2.2.2.2.2.2.2.2.2.2.2.2.2.2.2.2.2.2.2.2.2.2.1, h.2.2.2.2.2.2.2.2.2.2.2.2.2.2.2.2.2.2.2.2.2.2.2.2.2.2⟩))
theorem Qh3 (x : Q7) (h : Qd x) : ∀ left : Int, 0 ≤ left → left ≤ 1048576 → TotM (Q11 x.Q3 x.Q8 x.Q2 x.Qa x.Q5 x.Q9 x.Q1 x.Q6 x.Q4 left) := (Qe0 x h)
theorem Qbr (a : List Int) (h : a.length ≤ maxLen ∧ a.length * 8 ≤ 140737488351232 ∧ ∀ e_ ∈ a, (Lit.int .i64 e_).wf = true) : ∀ left : Int, 0 ≤ left → left ≤ 1048576 → TotM (QE a left) := (Q1R a h)
theorem QmS (a : List ByteArray) (h : a.length ≤ maxLen ∧ a.length * 16 ≤ 140737488351232 ∧ ∀ e_ ∈ a, e_.size ≤ 140737488351232) : Q9Y a = some a := by
  have hl : a.length ≤ 140737488351232 := Qn h.2.1 (by omega)
  have key := fun z => Q6E a id (fun i out => Q59 a i out) id (fun out ho => by rw [Q9a, Qi (by omega)]; rfl) (fun i x out hx hi ho => by
    rw [Q9a, Qj (by omega), Qg hx, Q0, Qe (Q4U (by omega) (by omega)), Qh (by omega)]
    rfl) (List.replicate a.length z) (by simp)
  rw [Qgg, Qe (by rw [Q0n (by omega) (by omega), Q38 (by omega)]; rfl)]
  exact (key _).trans (by simp)
theorem Q2c (a : List Int) (h : a.length ≤ maxLen ∧ a.length * 8 ≤ 140737488351232 ∧ ∀ e_ ∈ a, (Lit.int .i64 e_).wf = true) : QI a = some a := by
  have hl : a.length ≤ 140737488351232 := Qn h.2.1 (by omega)
  have key := fun z => Q6E a id (fun i out => Q5O a i out) id (fun out ho => by rw [Q9M, Qi (by omega)]; rfl) (fun i x out hx hi ho => by
    rw [Q9M, Qj (by omega), Qg hx, Q0, Qe (Q4U (by omega) (by omega)), Qh (by omega)]
    rfl) (List.replicate a.length z) (by simp)
  rw [QgF, Qe (by rw [Q0n (by omega) (by omega), Q38 (by omega)]; rfl)]
  exact (key _).trans (by simp)
theorem Qof (x : QdS) (h : Q7v x) (h2 : Q1k x.2.2.Q3 x.2.2.Q8 x.2.2.Q2 x.2.2.Qa x.2.2.Q5 x.2.2.Q9 x.2.2.Q1 x.2.2.Q6 x.2.2.Q4 = some (x.2.2.Q3, x.2.2.Q8, x.2.2.Q2, x.2.2.Qa, x.2.2.Q4, x.2.2.Q5, x.2.2.Q9, x.2.2.Q1, x.2.2.Q6)) : Q85 x.1 x.2.1 x.2.2.Q3 x.2.2.Q8 x.2.2.Q2 x.2.2.Qa x.2.2.Q5 x.2.2.Q9 x.2.2.Q1 x.2.2.Q6 x.2.2.Q4 = some (x.1, x.2.1, x.2.2.Q3, x.2.2.Q8, x.2.2.Q2, x.2.2.Qa, x.2.2.Q4, x.2.2.Q5, x.2.2.Q9, x.2.2.Q1, x.2.2.Q6) := by
  rw [Qhp, h2, Q0]
theorem QmT (a : List (ByteArray × Int × Q7)) (h : a.length ≤ maxLen ∧ a.length * 152 ≤ 140737488351232 ∧ ∀ e_ ∈ a, Q7v e_) (hr : ∀ x ∈ a, Q85 x.1 x.2.1 x.2.2.Q3 x.2.2.Q8 x.2.2.Q2 x.2.2.Qa x.2.2.Q5 x.2.2.Q9 x.2.2.Q1 x.2.2.Q6 x.2.2.Q4 = some (x.1, x.2.1, x.2.2.Q3, x.2.2.Q8, x.2.2.Q2, x.2.2.Qa, x.2.2.Q4, x.2.2.Q5, x.2.2.Q9, x.2.2.Q1, x.2.2.Q6)) : Qab a = some a := by
  have hl : a.length ≤ 140737488351232 := Qn h.2.1 (by omega)
  have key := fun z => Q6E a id (fun i out => Q5d a i out) id (fun out ho => by rw [Q8T, Qi (by omega)]; rfl) (fun i x out hx hi ho => by
    rw [Q8T, Qj (by omega), Qg hx, Q0, hr x (Qo hx), Q0, Qe (Q4U (by omega) (by omega)), Qh (by omega)]
    simp only [Q7.eta]
    rfl) (List.replicate a.length z) (by simp)
  rw [QfL, Qe (by rw [Q0n (by omega) (by omega), Q38 (by omega)]; rfl)]
  exact (key _).trans (by simp)
theorem QoT (a : List Q7) (h : a.length ≤ maxLen ∧ a.length * 128 ≤ 140737488351232 ∧ ∀ e_ ∈ a, Qd e_) (hr : ∀ x ∈ a, Q1k x.Q3 x.Q8 x.Q2 x.Qa x.Q5 x.Q9 x.Q1 x.Q6 x.Q4 = some (x.Q3, x.Q8, x.Q2, x.Qa, x.Q4, x.Q5, x.Q9, x.Q1, x.Q6)) : Qcd a = some a := by
  have hl : a.length ≤ 140737488351232 := Qn h.2.1 (by omega)
  have key := fun z => Q6E a id (fun i out => Q6m a i out) id (fun out ho => by rw [QaM, Qi (by omega)]; rfl) (fun i x out hx hi ho => by
    rw [QaM, Qj (by omega), Qg hx, Q0, hr x (Qo hx), Q0, Qe (Q4U (by omega) (by omega)), Qh (by omega)]
    simp only [Q7.eta]
    rfl) (List.replicate a.length z) (by simp)
  rw [Qid, Qe (by rw [Q0n (by omega) (by omega), Q38 (by omega)]; rfl)]
  exact (key _).trans (by simp)
theorem Qhk (x : Q7) (h : Qd x) : Q1k x.Q3 x.Q8 x.Q2 x.Qa x.Q5 x.Q9 x.Q1 x.Q6 x.Q4 = some (x.Q3, x.Q8, x.Q2, x.Qa, x.Q4, x.Q5, x.Q9, x.Q1, x.Q6) := by
  revert h
  refine Q7.ind (P := fun x => Qd x → Q1k x.Q3 x.Q8 x.Q2 x.Qa x.Q5 x.Q9 x.Q1 x.Q6 x.Q4 = some (x.Q3, x.Q8, x.Q2, x.Qa, x.Q4, x.Q5, x.Q9, x.Q1, x.Q6)) ?_ x
  intro x ih_Members ih_Base h
  have h := Qd.out h
  have g0 := (QmS x.Q5 h.2.2.2.2.1)
  have g1 := (Q2c x.Q9 h.2.2.2.2.2.1)
  have g2 := (QmT x.Q1 h.2.2.2.2.2.2.1 (fun y hy => (Qof y (h.2.2.2.2.2.2.1.2.2 y hy) (ih_Members y hy (h.2.2.2.2.2.2.1.2.2 y hy).2.2))))
  have g3 := (QoT x.Q6 h.2.2.2.2.2.2.2.1 (fun y hy => (ih_Base y hy (h.2.2.2.2.2.2.2.1.2.2 y hy))))
  rw [Qj6, g0, Q0, g1, Q0, g2, Q0, g3, Q0]
theorem QpY (x : Qa1) (h : Q8C x) (h0 : QI x.1 = some x.1) (h1 : QI x.2 = some x.2) : Q72 x.1 x.2 = some (x.1, x.2) := by
  rw [Qi8, h0, Q0, h1, Q0]
theorem Qoq (x : QgV) (h : Q5G x) : Q80 x.1 x.2.1 x.2.2 = some (x.1, x.2.1, x.2.2) := by
  rw [QgR]
theorem Qnf (a : List (Int × Int × Bool)) (h : a.length ≤ maxLen ∧ a.length * 24 ≤ 140737488351232 ∧ ∀ e_ ∈ a, Q5G e_) (hr : ∀ x ∈ a, Q80 x.1 x.2.1 x.2.2 = some (x.1, x.2.1, x.2.2)) : Q7m a = some a := by
  have hl : a.length ≤ 140737488351232 := Qn h.2.1 (by omega)
  have key := fun z => Q6E a id (fun i out => Q5f a i out) id (fun out ho => by rw [Q93, Qi (by omega)]; rfl) (fun i x out hx hi ho => by
    rw [Q93, Qj (by omega), Qg hx, Q0, hr x (Qo hx), Q0, Qe (Q4U (by omega) (by omega)), Qh (by omega)]
    rfl) (List.replicate a.length z) (by simp)
  rw [Qg3, Qe (by rw [Q0n (by omega) (by omega), Q38 (by omega)]; rfl)]
  exact (key _).trans (by simp)
theorem Qnb (x : Q6P) (h : Q4V x) (h0 : Q1k x.1.Q3 x.1.Q8 x.1.Q2 x.1.Qa x.1.Q5 x.1.Q9 x.1.Q1 x.1.Q6 x.1.Q4 = some (x.1.Q3, x.1.Q8, x.1.Q2, x.1.Qa, x.1.Q4, x.1.Q5, x.1.Q9, x.1.Q1, x.1.Q6)) (h1 : Q72 x.2.1 x.2.2.1 = some (x.2.1, x.2.2.1)) (h2 : QI x.2.2.2.1 = some x.2.2.2.1) (h3 : Q7m x.2.2.2.2.1 = some x.2.2.2.2.1) : Q5t x.1.Q3 x.1.Q8 x.1.Q2 x.1.Qa x.1.Q5 x.1.Q9 x.1.Q1 x.1.Q6 x.1.Q4 x.2.1 x.2.2.1 x.2.2.2.1 x.2.2.2.2.1 x.2.2.2.2.2.1 x.2.2.2.2.2.2 = some (x.1.Q3, x.1.Q8, x.1.Q2, x.1.Qa, x.1.Q4, x.2.2.2.2.2.1, x.2.2.2.2.2.2, x.1.Q5, x.1.Q9, x.1.Q1, x.1.Q6, x.2.1, x.2.2.1, x.2.2.2.1, x.2.2.2.2.1) := by
  rw [QfS, h0, Q0, h1, Q0, h2, Q0, h3, Q0]
theorem QoX (x : Q9W) (h : Q2s x) (h0 : QI x = some x) : Q7f x = some x := by
  rw [QhE, h0, Q0]
theorem QoF (a : List (List Int)) (h : a.length ≤ maxLen ∧ a.length * 24 ≤ 140737488351232 ∧ ∀ e_ ∈ a, Q2s e_) (hr : ∀ x ∈ a, Q7f x = some x) : Q8b a = some a := by
  have hl : a.length ≤ 140737488351232 := Qn h.2.1 (by omega)
  have key := fun z => Q6E a id (fun i out => Q5P a i out) id (fun out ho => by rw [Q9G, Qi (by omega)]; rfl) (fun i x out hx hi ho => by
    rw [Q9G, Qj (by omega), Qg hx, Q0, hr x (Qo hx), Q0, Qe (Q4U (by omega) (by omega)), Qh (by omega)]
    rfl) (List.replicate a.length z) (by simp)
  rw [QgP, Qe (by rw [Q0n (by omega) (by omega), Q38 (by omega)]; rfl)]
  exact (key _).trans (by simp)
theorem QkJ (x : Q51) (h : Q3z x) (h1 : QI x.2.1 = some x.2.1) (h2 : QI x.2.2.1 = some x.2.2.1) (h3 : QI x.2.2.2.1 = some x.2.2.2.1) (h4 : QI x.2.2.2.2.1 = some x.2.2.2.2.1) (h5 : Q8b x.2.2.2.2.2 = some x.2.2.2.2.2) : Q19 x.1 x.2.1 x.2.2.1 x.2.2.2.1 x.2.2.2.2.1 x.2.2.2.2.2 = some (x.1, x.2.1, x.2.2.1, x.2.2.2.1, x.2.2.2.2.1, x.2.2.2.2.2) := by
  rw [QeA, h1, Q0, h2, Q0, h3, Q0, h4, Q0, h5, Q0]
theorem QpC (x : Qa3) (h : Q8A x) (h0 : Q1k x.1.Q3 x.1.Q8 x.1.Q2 x.1.Qa x.1.Q5 x.1.Q9 x.1.Q1 x.1.Q6 x.1.Q4 = some (x.1.Q3, x.1.Q8, x.1.Q2, x.1.Qa, x.1.Q4, x.1.Q5, x.1.Q9, x.1.Q1, x.1.Q6)) (h1 : QI x.2.1 = some x.2.1) : Q73 x.1.Q3 x.1.Q8 x.1.Q2 x.1.Qa x.1.Q5 x.1.Q9 x.1.Q1 x.1.Q6 x.1.Q4 x.2.1 x.2.2 = some (x.1.Q3, x.1.Q8, x.1.Q2, x.1.Qa, x.1.Q4, x.2.2, x.1.Q5, x.1.Q9, x.1.Q1, x.1.Q6, x.2.1) := by
  rw [QhA, h0, Q0, h1, Q0]
theorem Ql0 (x : Q50) (h : Q4y x) (h1 : Q73 x.2.1.Q3 x.2.1.Q8 x.2.1.Q2 x.2.1.Qa x.2.1.Q5 x.2.1.Q9 x.2.1.Q1 x.2.1.Q6 x.2.1.Q4 x.2.2.1 x.2.2.2 = some (x.2.1.Q3, x.2.1.Q8, x.2.1.Q2, x.2.1.Qa, x.2.1.Q4, x.2.2.2, x.2.1.Q5, x.2.1.Q9, x.2.1.Q1, x.2.1.Q6, x.2.2.1)) : Q4b x.1 x.2.1.Q3 x.2.1.Q8 x.2.1.Q2 x.2.1.Qa x.2.1.Q5 x.2.1.Q9 x.2.1.Q1 x.2.1.Q6 x.2.1.Q4 x.2.2.1 x.2.2.2 = some (x.1, x.2.1.Q3, x.2.1.Q8, x.2.1.Q2, x.2.1.Qa, x.2.1.Q4, x.2.2.2, x.2.1.Q5, x.2.1.Q9, x.2.1.Q1, x.2.1.Q6, x.2.2.1) := by
  rw [QeF, h1, Q0]
theorem Qnr (x : Q7d) (h : Q12 x) (h1 : Q19 x.2.1 x.2.2.1 x.2.2.2.1 x.2.2.2.2.1 x.2.2.2.2.2.1 x.2.2.2.2.2.2.1 = some (x.2.1, x.2.2.1, x.2.2.2.1, x.2.2.2.2.1, x.2.2.2.2.2.1, x.2.2.2.2.2.2.1)) (h2 : Q19 x.2.2.2.2.2.2.2.1 x.2.2.2.2.2.2.2.2.1 x.2.2.2.2.2.2.2.2.2.1 x.2.2.2.2.2.2.2.2.2.2.1 x.2.2.2.2.2.2.2.2.2.2.2.1 x.2.2.2.2.2.2.2.2.2.2.2.2 = some (x.2.2.2.2.2.2.2.1, x.2.2.2.2.2.2.2.2.1, x.2.2.2.2.2.2.2.2.2.1, x.2.2.2.2.2.2.2.2.2.2.1, x.2.2.2.2.2.2.2.2.2.2.2.1, x.2.2.2.2.2.2.2.2.2.2.2.2)) : Q5h x.1 x.2.1 x.2.2.1 x.2.2.2.1 x.2.2.2.2.1 x.2.2.2.2.2.1 x.2.2.2.2.2.2.1 x.2.2.2.2.2.2.2.1 x.2.2.2.2.2.2.2.2.1 x.2.2.2.2.2.2.2.2.2.1 x.2.2.2.2.2.2.2.2.2.2.1 x.2.2.2.2.2.2.2.2.2.2.2.1 x.2.2.2.2.2.2.2.2.2.2.2.2 = some (x.1, x.2.1, x.2.2.2.2.2.2.2.1, x.2.2.1, x.2.2.2.1, x.2.2.2.2.1, x.2.2.2.2.2.1, x.2.2.2.2.2.2.1, x.2.2.2.2.2.2.2.2.1, x.2.2.2.2.2.2.2.2.2.1, x.2.2.2.2.2.2.2.2.2.2.1, x.2.2.2.2.2.2.2.2.2.2.2.1, x.2.2.2.2.2.2.2.2.2.2.2.2) := by
  rw [Qga, h1, Q0, h2, Q0]
theorem QlR (a : List (ByteArray × Int × List Int × List Int × List Int × List Int × List (List Int) × Int × List Int × List Int × List Int × List Int × List (List Int))) (h : a.length ≤ maxLen ∧ a.length * 272 ≤ 140737488351232 ∧ ∀ e_ ∈ a, Q12 e_) (hr : ∀ x ∈ a, Q5h x.1 x.2.1 x.2.2.1 x.2.2.2.1 x.2.2.2.2.1 x.2.2.2.2.2.1 x.2.2.2.2.2.2.1 x.2.2.2.2.2.2.2.1 x.2.2.2.2.2.2.2.2.1 x.2.2.2.2.2.2.2.2.2.1 x.2.2.2.2.2.2.2.2.2.2.1 x.2.2.2.2.2.2.2.2.2.2.2.1 x.2.2.2.2.2.2.2.2.2.2.2.2 = some (x.1, x.2.1, x.2.2.2.2.2.2.2.1, x.2.2.1, x.2.2.2.1, x.2.2.2.2.1, x.2.2.2.2.2.1, x.2.2.2.2.2.2.1, x.2.2.2.2.2.2.2.2.1, x.2.2.2.2.2.2.2.2.2.1, x.2.2.2.2.2.2.2.2.2.2.1, x.2.2.2.2.2.2.2.2.2.2.2.1, x.2.2.2.2.2.2.2.2.2.2.2.2)) : Q6A a = some a := by
  have hl : a.length ≤ 140737488351232 := Qn h.2.1 (by omega)
  have key := fun z => Q6E a id (fun i out => Q4F a i out) id (fun out ho => by rw [Q8D, Qi (by omega)]; rfl) (fun i x out hx hi ho => by
    rw [Q8D, Qj (by omega), Qg hx, Q0, hr x (Qo hx), Q0, Qe (Q4U (by omega) (by omega)), Qh (by omega)]
    rfl) (List.replicate a.length z) (by simp)
  rw [Qf1, Qe (by rw [Q0n (by omega) (by omega), Q38 (by omega)]; rfl)]
  exact (key _).trans (by simp)
theorem Qnj (x : Q6N) (h : Q54 x) (h0 : Q1k x.1.Q3 x.1.Q8 x.1.Q2 x.1.Qa x.1.Q5 x.1.Q9 x.1.Q1 x.1.Q6 x.1.Q4 = some (x.1.Q3, x.1.Q8, x.1.Q2, x.1.Qa, x.1.Q4, x.1.Q5, x.1.Q9, x.1.Q1, x.1.Q6)) (h1 : QI x.2.1 = some x.2.1) (h3 : Q6A x.2.2.2 = some x.2.2.2) : Q5q x.1.Q3 x.1.Q8 x.1.Q2 x.1.Qa x.1.Q5 x.1.Q9 x.1.Q1 x.1.Q6 x.1.Q4 x.2.1 x.2.2.1 x.2.2.2 = some (x.1.Q3, x.1.Q8, x.1.Q2, x.1.Qa, x.1.Q4, x.2.2.1, x.1.Q5, x.1.Q9, x.1.Q1, x.1.Q6, x.2.1, x.2.2.2) := by
  rw [Qgd, h0, Q0, h1, Q0, h3, Q0]
theorem Qs4 (x : K_Op) (h : Q0J x) (h4 : Q5t x.2.2.2.2.1.Q3 x.2.2.2.2.1.Q8 x.2.2.2.2.1.Q2 x.2.2.2.2.1.Qa x.2.2.2.2.1.Q5 x.2.2.2.2.1.Q9 x.2.2.2.2.1.Q1 x.2.2.2.2.1.Q6 x.2.2.2.2.1.Q4 x.2.2.2.2.2.1 x.2.2.2.2.2.2.1 x.2.2.2.2.2.2.2.1 x.2.2.2.2.2.2.2.2.1 x.2.2.2.2.2.2.2.2.2.1 x.2.2.2.2.2.2.2.2.2.2.1 = some (x.2.2.2.2.1.Q3, x.2.2.2.2.1.Q8, x.2.2.2.2.1.Q2, x.2.2.2.2.1.Qa, x.2.2.2.2.1.Q4, x.2.2.2.2.2.2.2.2.2.1, x.2.2.2.2.2.2.2.2.2.2.1, x.2.2.2.2.1.Q5, x.2.2.2.2.1.Q9, x.2.2.2.2.1.Q1, x.2.2.2.2.1.Q6, x.2.2.2.2.2.1, x.2.2.2.2.2.2.1, x.2.2.2.2.2.2.2.1, x.2.2.2.2.2.2.2.2.1)) (h5 : QI x.2.2.2.2.2.2.2.2.2.2.2.1 = some x.2.2.2.2.2.2.2.2.2.2.2.1) (h6 : Q19 x.2.2.2.2.2.2.2.2.2.2.2.2.1 x.2.2.2.2.2.2.2.2.2.2.2.2.2.1 x.2.2.2.2.2.2.2.2.2.2.2.2.2.2.1 x.2.2.2.2.2.2.2.2.2.2.2.2.2.2.2.1 x.2.2.2.2.2.2.2.2.2.2.2.2.2.2.2.2.1 x.2.2.2.2.2.2.2.2.2.2.2.2.2.2.2.2.2.1 = some (x.2.2.2.2.2.2.2.2.2.2.2.2.1, x.2.2.2.2.2.2.2.2.2.2.2.2.2.1, x.2.2.2.2.2.2.2.2.2.2.2.2.2.2.1, x.2.2.2.2.2.2.2.2.2.2.2.2.2.2.2.1, x.2.2.2.2.2.2.2.2.2.2.2.2.2.2.2.2.1, x.2.2.2.2.2.2.2.2.2.2.2.2.2.2.2.2.2.1)) (h8 : Q4b x.2.2.2.2.2.2.2.2.2.2.2.2.2.2.2.2.2.2.2.1 x.2.2.2.2.2.2.2.2.2.2.2.2.2.2.2.2.2.2.2.2.1.Q3 x.2.2.2.2.2.2.2.2.2.2.2.2.2.2.2.2.2.2.2.2.1.Q8 x.2.2.2.2.2.2.2.2.2.2.2.2.2.2.2.2.2.2.2.2.1.Q2 x.2.2.2.2.2.2.2.2.2.2.2.2.2.2.2.2.2.2.2.2.1.Qa x.2.2.2.2.2.2.2.2.2.2.2.2.2.2.2.2.2.2.2.2.1.Q5 x.2.2.2.2.2.2.2.2.2.2.2.2.2.2.2.2.2.2.2.2.1.Q9 x.2.2.2.2.2.2.2.2.2.2.2.2.2.2.2.2.2.2.2.2.1.Q1 x.2.2.2.2.2.2.2.2.2.2.2.2.2.2.2.2.2.2.2.2.1.Q6 x.2.2.2.2.2.2.2.2.2.2.2.2.2.2.2.2.2.2.2.2.1.Q4 x.2.2.2.2.2.2.2.2.2.2.2.2.2.2.2.2.2.2.2.2.2.1 x.2.2.2.2.2.2.2.2.2.2.2.2.2.2.2.2.2.2.2.2.2.2.1 = some (x.2.2.2.2.2.2.2.2.2.2.2.2.2.2.2.2.2.2.2.1, x.2.2.2.2.2.2.2.2.2.2.2.2.2.2.2.2.2.2.2.2.1.Q3, x.2.2.2.2.2.2.2.2.2.2.2.2.2.2.2.2.2.2.2.2.1.Q8, x.2.2.2.2.2.2.2.2.2.2.2.2.2.2.2.2.2.2.2.2.1.Q2, x.2.2.2.2.2.2.2.2.2.2.2.2.2.2.2.2.2.2.2.2.1.Qa, x.2.2.2.2.2.2.2.2.2.2.2.2.2.2.2.2.2.2.2.2.1.Q4, x.2.2.2.2.2.2.2.2.2.2.2.2.2.2.2.2.2.2.2.2.2.2.1, x.2.2.2.2.2.2.2.2.2.2.2.2.2.2.2.2.2.2.2.2.1.Q5, x.2.2.2.2.2.2.2.2.2.2.2.2.2.2.2.2.2.2.2.2.1.Q9, x.2.2.2.2.2.2.2.2.2.2.2.2.2.2.2.2.2.2.2.2.1.Q1, x.2.2.2.2.2.2.2.2.2.2.2.2.2.2.2.2.2.2.2.2.1.Q6, x.2.2.2.2.2.2.2.2.2.2.2.2.2.2.2.2.2.2.2.2.2.1)) (h9 : Q5q x.2.2.2.2.2.2.2.2.2.2.2.2.2.2.2.2.2.2.2.2.2.2.2.1.Q3 x.2.2.2.2.2.2.2.2.2.2.2.2.2.2.2.2.2.2.2.2.2.2.2.1.Q8 x.2.2.2.2.2.2.2.2.2.2.2.2.2.2.2.2.2.2.2.2.2.2.2.1.Q2 x.2.2.2.2.2.2.2.2.2.2.2.2.2.2.2.2.2.2.2.2.2.2.2.1.Qa x.2.2.2.2.2.2.2.2.2.2.2.2.2.2.2.2.2.2.2.2.2.2.2.1.Q5 x.2.2.2.2.2.2.2.2.2.2.2.2.2.2.2.2.2.2.2.2.2.2.2.1.Q9 x.2.2.2.2.2.2.2.2.2.2.2.2.2.2.2.2.2.2.2.2.2.2.2.1.Q1 x.2.2.2.2.2.2.2.2.2.2.2.2.2.2.2.2.2.2.2.2.2.2.2.1.Q6 x.2.2.2.2.2.2.2.2.2.2.2.2.2.2.2.2.2.2.2.2.2.2.2.1.Q4 x.2.2.2.2.2.2.2.2.2.2.2.2.2.2.2.2.2.2.2.2.2.2.2.2.1 x.2.2.2.2.2.2.2.2.2.2.2.2.2.2.2.2.2.2.2.2.2.2.2.2.2.1 x.2.2.2.2.2.2.2.2.2.2.2.2.2.2.2.2.2.2.2.2.2.2.2.2.2.2 = some (x.2.2.2.2.2.2.2.2.2.2.2.2.2.2.2.2.2.2.2.2.2.2.2.1.Q3, x.2.2.2.2.2.2.2.2.2.2.2.2.2.2.2.2.2.2.2.2.2.2.2.1.Q8, x.2.2.2.2.2.2.2.2.2.2.2.2.2.2.2.2.2.2.2.2.2.2.2.1.Q2, x.2.2.2.2.2.2.2.2.2.2.2.2.2.2.2.2.2.2.2.2.2.2.2.1.Qa, x.2.2.2.2.2.2.2.2.2.2.2.2.2.2.2.2.2.2.2.2.2.2.2.1.Q4, x.2.2.2.2.2.2.2.2.2.2.2.2.2.2.2.2.2.2.2.2.2.2.2.2.2.1, x.2.2.2.2.2.2.2.2.2.2.2.2.2.2.2.2.2.2.2.2.2.2.2.1.Q5, x.2.2.2.2.2.2.2.2.2.2.2.2.2.2.2.2.2.2.2.2.2.2.2.1.Q9, x.2.2.2.2.2.2.2.2.2.2.2.2.2.2.2.2.2.2.2.2.2.2.2.1.Q1, x.2.2.2.2.2.2.2.2.2.2.2.2.2.2.2.2.2.2.2.2.2.2.2.1.Q6, x.2.2.2.2.2.2.2.2.2.2.2.2.2.2.2.2.2.2.2.2.2.2.2.2.1, x.2.2.2.2.2.2.2.2.2.2.2.2.2.2.2.2.2.2.2.2.2.2.2.2.2.2)) : Q8I x.1 x.2.1 x.2.2.1 x.2.2.2.1 x.2.2.2.2.1.Q3 x.2.2.2.2.1.Q8 x.2.2.2.2.1.Q2 x.2.2.2.2.1.Qa x.2.2.2.2.1.Q5 x.2.2.2.2.1.Q9 x.2.2.2.2.1.Q1 x.2.2.2.2.1.Q6 x.2.2.2.2.1.Q4 x.2.2.2.2.2.1 x.2.2.2.2.2.2.1 x.2.2.2.2.2.2.2.1 x.2.2.2.2.2.2.2.2.1 x.2.2.2.2.2.2.2.2.2.1 x.2.2.2.2.2.2.2.2.2.2.1 x.2.2.2.2.2.2.2.2.2.2.2.1 x.2.2.2.2.2.2.2.2.2.2.2.2.1 x.2.2.2.2.2.2.2.2.2.2.2.2.2.1 x.2.2.2.2.2.2.2.2.2.2.2.2.2.2.1 x.2.2.2.2.2.2.2.2.2.2.2.2.2.2.2.1 x.2.2.2.2.2.2.2.2.2.2.2.2.2.2.2.2.1 x.2.2.2.2.2.2.2.2.2.2.2.2.2.2.2.2.2.1 x.2.2.2.2.2.2.2.2.2.2.2.2.2.2.2.2.2.2.1 x.2.2.2.2.2.2.2.2.2.2.2.2.2.2.2.2.2.2.2.1 x.2.2.2.2.2.2.2.2.2.2.2.2.2.2.2.2.2.2.2.2.1.Q3 x.2.2.2.2.2.2.2.2.2.2.2.2.2.2.2.2.2.2.2.2.1.Q8 x.2.2.2.2.2.2.2.2.2.2.2.2.2.2.2.2.2.2.2.2.1.Q2 x.2.2.2.2.2.2.2.2.2.2.2.2.2.2.2.2.2.2.2.2.1.Qa x.2.2.2.2.2.2.2.2.2.2.2.2.2.2.2.2.2.2.2.2.1.Q5 x.2.2.2.2.2.2.2.2.2.2.2.2.2.2.2.2.2.2.2.2.1.Q9 x.2.2.2.2.2.2.2.2.2.2.2.2.2.2.2.2.2.2.2.2.1.Q1 x.2.2.2.2.2.2.2.2.2.2.2.2.2.2.2.2.2.2.2.2.1.Q6 x.2.2.2.2.2.2.2.2.2.2.2.2.2.2.2.2.2.2.2.2.1.Q4 x.2.2.2.2.2.2.2.2.2.2.2.2.2.2.2.2.2.2.2.2.2.1 x.2.2.2.2.2.2.2.2.2.2.2.2.2.2.2.2.2.2.2.2.2.2.1 x.2.2.2.2.2.2.2.2.2.2.2.2.2.2.2.2.2.2.2.2.2.2.2.1.Q3 x.2.2.2.2.2.2.2.2.2.2.2.2.2.2.2.2.2.2.2.2.2.2.2.1.Q8 x.2.2.2.2.2.2.2.2.2.2.2.2.2.2.2.2.2.2.2.2.2.2.2.1.Q2 x.2.2.2.2.2.2.2.2.2.2.2.2.2.2.2.2.2.2.2.2.2.2.2.1.Qa x.2.2.2.2.2.2.2.2.2.2.2.2.2.2.2.2.2.2.2.2.2.2.2.1.Q5 x.2.2.2.2.2.2.2.2.2.2.2.2.2.2.2.2.2.2.2.2.2.2.2.1.Q9 x.2.2.2.2.2.2.2.2.2.2.2.2.2.2.2.2.2.2.2.2.2.2.2.1.Q1 x.2.2.2.2.2.2.2.2.2.2.2.2.2.2.2.2.2.2.2.2.2.2.2.1.Q6 x.2.2.2.2.2.2.2.2.2.2.2.2.2.2.2.2.2.2.2.2.2.2.2.1.Q4 x.2.2.2.2.2.2.2.2.2.2.2.2.2.2.2.2.2.2.2.2.2.2.2.2.1 x.2.2.2.2.2.2.2.2.2.2.2.2.2.2.2.2.2.2.2.2.2.2.2.2.2.1 x.2.2.2.2.2.2.2.2.2.2.2.2.2.2.2.2.2.2.2.2.2.2.2.2.2.2 = some (x.1, x.2.1, x.2.2.1, x.2.2.2.1, x.2.2.2.2.1.Q3, x.2.2.2.2.1.Q8, x.2.2.2.2.1.Q2, x.2.2.2.2.1.Qa, x.2.2.2.2.1.Q4, x.2.2.2.2.2.2.2.2.2.1, x.2.2.2.2.2.2.2.2.2.2.1, x.2.2.2.2.2.2.2.2.2.2.2.2.1, x.2.2.2.2.2.2.2.2.2.2.2.2.2.2.2.2.2.2.1, x.2.2.2.2.2.2.2.2.2.2.2.2.2.2.2.2.2.2.2.1, x.2.2.2.2.2.2.2.2.2.2.2.2.2.2.2.2.2.2.2.2.1.Q3, x.2.2.2.2.2.2.2.2.2.2.2.2.2.2.2.2.2.2.2.2.1.Q8, x.2.2.2.2.2.2.2.2.2.2.2.2.2.2.2.2.2.2.2.2.1.Q2, x.2.2.2.2.2.2.2.2.2.2.2.2.2.2.2.2.2.2.2.2.1.Qa, x.2.2.2.2.2.2.2.2.2.2.2.2.2.2.2.2.2.2.2.2.1.Q4, x.2.2.2.2.2.2.2.2.2.2.2.2.2.2.2.2.2.2.2.2.2.2.1, x.2.2.2.2.2.2.2.2.2.2.2.2.2.2.2.2.2.2.2.2.2.2.2.1.Q3, x.2.2.2.2.2.2.2.2.2.2.2.2.2.2.2.2.2.2.2.2.2.2.2.1.Q8, x.2.2.2.2.2.2.2.2.2.2.2.2.2.2.2.2.2.2.2.2.2.2.2.1.Q2, x.2.2.2.2.2.2.2.2.2.2.2.2.2.2.2.2.2.2.2.2.2.2.2.1.Qa, x.2.2.2.2.2.2.2.2.2.2.2.2.2.2.2.2.2.2.2.2.2.2.2.1.Q4, x.2.2.2.2.2.2.2.2.2.2.2.2.2.2.2.2.2.2.2.2.2.2.2.2.2.1, x.2.2.2.2.1.Q5, x.2.2.2.2.1.Q9, x.2.2.2.2.1.Q1, x.2.2.2.2.1.Q6, x.2.2.2.2.2.1, x.2.2.2.2.2.2.1, x.2.2.2.2.2.2.2.1, x.2.2.2.2.2.2.2.2.1, x.2.2.2.2.2.2.2.2.2.2.2.1, x.2.2.2.2.2.2.2.2.2.2.2.2.2.1, x.2.2.2.2.2.2.2.2.2.2.2.2.2.2.1, x.2.2.2.2.2.2.2.2.2.2.2.2.2.2.2.1, x.2.2.2.2.2.2.2.2.2.2.2.2.2.2.2.2.1, x.2.2.2.2.2.2.2.2.2.2.2.2.2.2.2.2.2.1, x.2.2.2.2.2.2.2.2.2.2.2.2.2.2.2.2.2.2.2.2.1.Q5, x.2.2.2.2.2.2.2.2.2.2.2.2.2.2.2.2.2.2.2.2.1.Q9, x.2.2.2.2.2.2.2.2.2.2.2.2.2.2.2.2.2.2.2.2.1.Q1, x.2.2.2.2.2.2.2.2.2.2.2.2.2.2.2.2.2.2.2.2.1.Q6, x.2.2.2.2.2.2.2.2.2.2.2.2.2.2.2.2.2.2.2.2.2.1, x.2.2.2.2.2.2.2.2.2.2.2.2.2.2.2.2.2.2.2.2.2.2.2.1.Q5, x.2.2.2.2.2.2.2.2.2.2.2.2.2.2.2.2.2.2.2.2.2.2.2.1.Q9, x.2.2.2.2.2.2.2.2.2.2.2.2.2.2.2.2.2.2.2.2.2.2.2.1.Q1, x.2.2.2.2.2.2.2.2.2.2.2.2.2.2.2.2.2.2.2.2.2.2.2.1.Q6, x.2.2.2.2.2.2.2.2.2.2.2.2.2.2.2.2.2.2.2.2.2.2.2.2.1, x.2.2.2.2.2.2.2.2.2.2.2.2.2.2.2.2.2.2.2.2.2.2.2.2.2.2) := by
  rw [Qmw, h4, Q0, h5, Q0, h6, Q0, h8, Q0, h9, Q0]
theorem QpH (x : Qa1) (h : Q8C x) : Q72 x.1 x.2 = some (x.1, x.2) := (QpY x h (Q2c x.1 h.1) (Q2c x.2 h.2))
theorem QmU (x : Q6P) (h : Q4V x) : Q5t x.1.Q3 x.1.Q8 x.1.Q2 x.1.Qa x.1.Q5 x.1.Q9 x.1.Q1 x.1.Q6 x.1.Q4 x.2.1 x.2.2.1 x.2.2.2.1 x.2.2.2.2.1 x.2.2.2.2.2.1 x.2.2.2.2.2.2 = some (x.1.Q3, x.1.Q8, x.1.Q2, x.1.Qa, x.1.Q4, x.2.2.2.2.2.1, x.2.2.2.2.2.2, x.1.Q5, x.1.Q9, x.1.Q1, x.1.Q6, x.2.1, x.2.2.1, x.2.2.2.1, x.2.2.2.2.1) := (Qnb x h (Qhk x.1 h.1) (QpH (x.2.1, x.2.2.1) ⟨h.2.1, h.2.2.1⟩) (Q2c x.2.2.2.1 h.2.2.2.1) (Qnf x.2.2.2.2.1 h.2.2.2.2.1 (fun y hy => (Qoq y (h.2.2.2.2.1.2.2 y hy)))))
theorem Qq3 (x : Q9W) (h : Q2s x) : Q7f x = some x := (QoX x h (Q2c x h))
theorem Qb3 (x : Q51) (h : Q3z x) : Q19 x.1 x.2.1 x.2.2.1 x.2.2.2.1 x.2.2.2.2.1 x.2.2.2.2.2 = some (x.1, x.2.1, x.2.2.1, x.2.2.2.1, x.2.2.2.2.1, x.2.2.2.2.2) := (QkJ x h (Q2c x.2.1 h.2.1) (Q2c x.2.2.1 h.2.2.1) (Q2c x.2.2.2.1 h.2.2.2.1) (Q2c x.2.2.2.2.1 h.2.2.2.2.1) (QoF x.2.2.2.2.2 h.2.2.2.2.2 (fun y hy => (Qq3 y (h.2.2.2.2.2.2.2 y hy)))))
theorem Qpb (x : Qa3) (h : Q8A x) : Q73 x.1.Q3 x.1.Q8 x.1.Q2 x.1.Qa x.1.Q5 x.1.Q9 x.1.Q1 x.1.Q6 x.1.Q4 x.2.1 x.2.2 = some (x.1.Q3, x.1.Q8, x.1.Q2, x.1.Qa, x.1.Q4, x.2.2, x.1.Q5, x.1.Q9, x.1.Q1, x.1.Q6, x.2.1) := (QpC x h (Qhk x.1 h.1) (Q2c x.2.1 h.2.1))
theorem QkN (x : Q50) (h : Q4y x) : Q4b x.1 x.2.1.Q3 x.2.1.Q8 x.2.1.Q2 x.2.1.Qa x.2.1.Q5 x.2.1.Q9 x.2.1.Q1 x.2.1.Q6 x.2.1.Q4 x.2.2.1 x.2.2.2 = some (x.1, x.2.1.Q3, x.2.1.Q8, x.2.1.Q2, x.2.1.Qa, x.2.1.Q4, x.2.2.2, x.2.1.Q5, x.2.1.Q9, x.2.1.Q1, x.2.1.Q6, x.2.2.1) := (Ql0 x h (Qpb (x.2.1, x.2.2.1, x.2.2.2) ⟨h.2.1, h.2.2.1, h.2.2.2⟩))
theorem QmZ (x : Q7d) (h : Q12 x) : Q5h x.1 x.2.1 x.2.2.1 x.2.2.2.1 x.2.2.2.2.1 x.2.2.2.2.2.1 x.2.2.2.2.2.2.1 x.2.2.2.2.2.2.2.1 x.2.2.2.2.2.2.2.2.1 x.2.2.2.2.2.2.2.2.2.1 x.2.2.2.2.2.2.2.2.2.2.1 x.2.2.2.2.2.2.2.2.2.2.2.1 x.2.2.2.2.2.2.2.2.2.2.2.2 = some (x.1, x.2.1, x.2.2.2.2.2.2.2.1, x.2.2.1, x.2.2.2.1, x.2.2.2.2.1, x.2.2.2.2.2.1, x.2.2.2.2.2.2.1, x.2.2.2.2.2.2.2.2.1, x.2.2.2.2.2.2.2.2.2.1, x.2.2.2.2.2.2.2.2.2.2.1, x.2.2.2.2.2.2.2.2.2.2.2.1, x.2.2.2.2.2.2.2.2.2.2.2.2) := (Qnr x h (Qb3 (x.2.1, x.2.2.1, x.2.2.2.1, x.2.2.2.2.1, x.2.2.2.2.2.1, x.2.2.2.2.2.2.1) ⟨h.2.1, h.2.2.1, h.2.2.2.1, h.2.2.2.2.1, h.2.2.2.2.2.1, h.2.2.2.2.2.2.1⟩) (Qb3 (x.2.2.2.2.2.2.2.1, x.2.2.2.2.2.2.2.2.1, x.2.2.2.2.2.2.2.2.2.1, x.2.2.2.2.2.2.2.2.2.2.1, x.2.2.2.2.2.2.2.2.2.2.2.1, x.2.2.2.2.2.2.2.2.2.2.2.2) ⟨h.2.2.2.2.2.2.2.1, h.2.2.2.2.2.2.2.2.1, h.2.2.2.2.2.2.2.2.2.1, h.2.2.2.2.2.2.2.2.2.2.1, h.2.2.2.2.2.2.2.2.2.2.2.1, h.2.2.2.2.2.2.2.2.2.2.2.2⟩))
theorem Qn8 (x : Q6N) (h : Q54 x) : Q5q x.1.Q3 x.1.Q8 x.1.Q2 x.1.Qa x.1.Q5 x.1.Q9 x.1.Q1 x.1.Q6 x.1.Q4 x.2.1 x.2.2.1 x.2.2.2 = some (x.1.Q3, x.1.Q8, x.1.Q2, x.1.Qa, x.1.Q4, x.2.2.1, x.1.Q5, x.1.Q9, x.1.Q1, x.1.Q6, x.2.1, x.2.2.2) := (Qnj x h (Qhk x.1 h.1) (Q2c x.2.1 h.2.1) (QlR x.2.2.2 h.2.2.2 (fun y hy => (QmZ y (h.2.2.2.2.2 y hy)))))
theorem QrY (x : K_Op) (h : Q0J x) : Q8I x.1 x.2.1 x.2.2.1 x.2.2.2.1 x.2.2.2.2.1.Q3 x.2.2.2.2.1.Q8 x.2.2.2.2.1.Q2 x.2.2.2.2.1.Qa x.2.2.2.2.1.Q5 x.2.2.2.2.1.Q9 x.2.2.2.2.1.Q1 x.2.2.2.2.1.Q6 x.2.2.2.2.1.Q4 x.2.2.2.2.2.1 x.2.2.2.2.2.2.1 x.2.2.2.2.2.2.2.1 x.2.2.2.2.2.2.2.2.1 x.2.2.2.2.2.2.2.2.2.1 x.2.2.2.2.2.2.2.2.2.2.1 x.2.2.2.2.2.2.2.2.2.2.2.1 x.2.2.2.2.2.2.2.2.2.2.2.2.1 x.2.2.2.2.2.2.2.2.2.2.2.2.2.1 x.2.2.2.2.2.2.2.2.2.2.2.2.2.2.1 x.2.2.2.2.2.2.2.2.2.2.2.2.2.2.2.1 x.2.2.2.2.2.2.2.2.2.2.2.2.2.2.2.2.1 x.2.2.2.2.2.2.2.2.2.2.2.2.2.2.2.2.2.1 x.2.2.2.2.2.2.2.2.2.2.2.2.2.2.2.2.2.2.1 x.2.2.2.2.2.2.2.2.2.2.2.2.2.2.2.2.2.2.2.1 x.2.2.2.2.2.2.2.2.2.2.2.2.2.2.2.2.2.2.2.2.1.Q3 x.2.2.2.2.2.2.2.2.2.2.2.2.2.2.2.2.2.2.2.2.1.Q8 x.2.2.2.2.2.2.2.2.2.2.2.2.2.2.2.2.2.2.2.2.1.Q2 x.2.2.2.2.2.2.2.2.2.2.2.2.2.2.2.2.2.2.2.2.1.Qa x.2.2.2.2.2.2.2.2.2.2.2.2.2.2.2.2.2.2.2.2.1.Q5 x.2.2.2.2.2.2.2.2.2.2.2.2.2.2.2.2.2.2.2.2.1.Q9 x.2.2.2.2.2.2.2.2.2.2.2.2.2.2.2.2.2.2.2.2.1.Q1 x.2.2.2.2.2.2.2.2.2.2.2.2.2.2.2.2.2.2.2.2.1.Q6 x.2.2.2.2.2.2.2.2.2.2.2.2.2.2.2.2.2.2.2.2.1.Q4 x.2.2.2.2.2.2.2.2.2.2.2.2.2.2.2.2.2.2.2.2.2.1 x.2.2.2.2.2.2.2.2.2.2.2.2.2.2.2.2.2.2.2.2.2.2.1 x.2.2.2.2.2.2.2.2.2.2.2.2.2.2.2.2.2.2.2.2.2.2.2.1.Q3 x.2.2.2.2.2.2.2.2.2.2.2.2.2.2.2.2.2.2.2.2.2.2.2.1.Q8 x.2.2.2.2.2.2.2.2.2.2.2.2.2.2.2.2.2.2.2.2.2.2.2.1.Q2 x.2.2.2.2.2.2.2.2.2.2.2.2.2.2.2.2.2.2.2.2.2.2.2.1.Qa x.2.2.2.2.2.2.2.2.2.2.2.2.2.2.2.2.2.2.2.2.2.2.2.1.Q5 x.2.2.2.2.2.2.2.2.2.2.2.2.2.2.2.2.2.2.2.2.2.2.2.1.Q9 x.2.2.2.2.2.2.2.2.2.2.2.2.2.2.2.2.2.2.2.2.2.2.2.1.Q1 x.2.2.2.2.2.2.2.2.2.2.2.2.2.2.2.2.2.2.2.2.2.2.2.1.Q6 x.2.2.2.2.2.2.2.2.2.2.2.2.2.2.2.2.2.2.2.2.2.2.2.1.Q4 x.2.2.2.2.2.2.2.2.2.2.2.2.2.2.2.2.2.2.2.2.2.2.2.2.1 x.2.2.2.2.2.2.2.2.2.2.2.2.2.2.2.2.2.2.2.2.2.2.2.2.2.1 x.2.2.2.2.2.2.2.2.2.2.2.2.2.2.2.2.2.2.2.2.2.2.2.2.2.2 = some (x.1, x.2.1, x.2.2.1, x.2.2.2.1, x.2.2.2.2.1.Q3, x.2.2.2.2.1.Q8, x.2.2.2.2.1.Q2, x.2.2.2.2.1.Qa, x.2.2.2.2.1.Q4, x.2.2.2.2.2.2.2.2.2.1, x.2.2.2.2.2.2.2.2.2.2.1, x.2.2.2.2.2.2.2.2.2.2.2.2.1, x.2.2.2.2.2.2.2.2.2.2.2.2.2.2.2.2.2.2.1, x.2.2.2.2.2.2.2.2.2.2.2.2.2.2.2.2.2.2.2.1, x.2.2.2.2.2.2.2.2.2.2.2.2.2.2.2.2.2.2.2.2.1.Q3, x.2.2.2.2.2.2.2.2.2.2.2.2.2.2.2.2.2.2.2.2.1.Q8, x.2.2.2.2.2.2.2.2.2.2.2.2.2.2.2.2.2.2.2.2.1.Q2, x.2.2.2.2.2.2.2.2.2.2.2.2.2.2.2.2.2.2.2.2.1.Qa, x.2.2.2.2.2.2.2.2.2.2.2.2.2.2.2.2.2.2.2.2.1.Q4, x.2.2.2.2.2.2.2.2.2.2.2.2.2.2.2.2.2.2.2.2.2.2.1, x.2.2.2.2.2.2.2.2.2.2.2.2.2.2.2.2.2.2.2.2.2.2.2.1.Q3, x.2.2.2.2.2.2.2.2.2.2.2.2.2.2.2.2.2.2.2.2.2.2.2.1.Q8, x.2.2.2.2.2.2.2.2.2.2.2.2.2.2.2.2.2.2.2.2.2.2.2.1.Q2, x.2.2.2.2.2.2.2.2.2.2.2.2.2.2.2.2.2.2.2.2.2.2.2.1.Qa, x.2.2.2.2.2.2.2.2.2.2.2.2.2.2.2.2.2.2.2.2.2.2.2.1.Q4, x.2.2.2.2.2.2.2.2.2.2.2.2.2.2.2.2.2.2.2.2.2.2.2.2.2.1, x.2.2.2.2.1.Q5, x.2.2.2.2.1.Q9, x.2.2.2.2.1.Q1, x.2.2.2.2.1.Q6, x.2.2.2.2.2.1, x.2.2.2.2.2.2.1, x.2.2.2.2.2.2.2.1, x.2.2.2.2.2.2.2.2.1, x.2.2.2.2.2.2.2.2.2.2.2.1, x.2.2.2.2.2.2.2.2.2.2.2.2.2.1, x.2.2.2.2.2.2.2.2.2.2.2.2.2.2.1, x.2.2.2.2.2.2.2.2.2.2.2.2.2.2.2.1, x.2.2.2.2.2.2.2.2.2.2.2.2.2.2.2.2.1, x.2.2.2.2.2.2.2.2.2.2.2.2.2.2.2.2.2.1, x.2.2.2.2.2.2.2.2.2.2.2.2.2.2.2.2.2.2.2.2.1.Q5, x.2.2.2.2.2.2.2.2.2.2.2.2.2.2.2.2.2.2.2.2.1.Q9, x.2.2.2.2.2.2.2.2.2.2.2.2.2.2.2.2.2.2.2.2.1.Q1, x.2.2.2.2.2.2.2.2.2.2.2.2.2.2.2.2.2.2.2.2.1.Q6, x.2.2.2.2.2.2.2.2.2.2.2.2.2.2.2.2.2.2.2.2.2.1, x.2.2.2.2.2.2.2.2.2.2.2.2.2.2.2.2.2.2.2.2.2.2.2.1.Q5, x.2.2.2.2.2.2.2.2.2.2.2.2.2.2.2.2.2.2.2.2.2.2.2.1.Q9, x.2.2.2.2.2.2.2.2.2.2.2.2.2.2.2.2.2.2.2.2.2.2.2.1.Q1, x.2.2.2.2.2.2.2.2.2.2.2.2.2.2.2.2.2.2.2.2.2.2.2.1.Q6, x.2.2.2.2.2.2.2.2.2.2.2.2.2.2.2.2.2.2.2.2.2.2.2.2.1, x.2.2.2.2.2.2.2.2.2.2.2.2.2.2.2.2.2.2.2.2.2.2.2.2.2.2) := (Qs4 x h (QmU (x.2.2.2.2.1, x.2.2.2.2.2.1, x.2.2.2.2.2.2.1, x.2.2.2.2.2.2.2.1, x.2.2.2.2.2.2.2.2.1, x.2.2.2.2.2.2.2.2.2.1, x.2.2.2.2.2.2.2.2.2.2.1) ⟨h.2.2.2.2.1, h.2.2.2.2.2.1, h.2.2.2.2.2.2.1, h.2.2.2.2.2.2.2.1, h.2.2.2.2.2.2.2.2.1, h.2.2.2.2.2.2.2.2.2.1, h.2.2.2.2.2.2.2.2.2.2.1⟩) (Q2c x.2.2.2.2.2.2.2.2.2.2.2.1 h.2.2.2.2.2.2.2.2.2.2.2.1) (Qb3 (x.2.2.2.2.2.2.2.2.2.2.2.2.1, x.2.2.2.2.2.2.2.2.2.2.2.2.2.1, x.2.2.2.2.2.2.2.2.2.2.2.2.2.2.1, x.2.2.2.2.2.2.2.2.2.2.2.2.2.2.2.1, x.2.2.2.2.2.2.2.2.2.2.2.2.2.2.2.2.1, x.2.2.2.2.2.2.2.2.2.2.2.2.2.2.2.2.2.1) ⟨h.2.2.2.2.2.2.2.2.2.2.2.2.1, h.2.2.2.2.2.2.2.2.2.2.2.2.2.1, h.2.2.2.2.2.2.2.2.2.2.2.2.2.2.1, h.2.2.2.2.2.2.2.2.2.2.2.2.2.2.2.1, h.2.2.2.2.2.2.2.2.2.2.2.2.2.2.2.2.1, h.2.2.2.2.2.2.2.2.2.2.2.2.2.2.2.2.2.1⟩) (QkN (x.2.2.2.2.2.2.2.2.2.2.2.2.2.2.2.2.2.2.2.1, x.2.2.2.2.2.2.2.2.2.2.2.2.2.2.2.2.2.2.2.2.1, x.2.2.2.2.2.2.2.2.2.2.2.2.2.2.2.2.2.2.2.2.2.1, x.2.2.2.2.2.2.2.2.2.2.2.2.2.2.2.2.2.2.2.2.2.2.1) ⟨h.2.2.2.2.2.2.2.2.2.2.2.2.2.2.2.2.2.2.2.1, h.2.2.2.2.2.2.2.2.2.2.2.2.2.2.2.2.2.2.2.2.1, h.2.2.2.2.2.2.2.2.2.2.2.2.2.2.2.2.2.2.2.2.2.1, h.2.2.2.2.2.2.2.2.2.2.2.2.2.2.2.2.2.2.2.2.2.2.1⟩) (Qn8 (x.2.2.2.2.2.2.2.2.2.2.2.2.2.2.2.2.2.2.2.2.2.2.2.1, x.2.2.2.2.2.2.2.2.2.2.2.2.2.2.2.2.2.2.2.2.2.2.2.2.1, x.2.2.2.2.2.2.2.2.2.2.2.2.2.2.2.2.2.2.2.2.2.2.2.2.2.1, x.2.2.2.2.2.2.2.2.2.2.2.2.2.2.2.2.2.2.2.2.2.2.2.2.2.2) ⟨h.2.2.2.2.2.2.2.2.2.2.2.2.2.2.2.2.2.2.2.2.2.2.2.1, h.2.2.2.2.2.2.2.2.2.2.2.2.2.2.2.2.2.2.2.2.2.2.2.2.1, h.2.2.2.2.2.2.2.2.2.2.2.2.2.2.2.2.2.2.2.2.2.2.2.2.2.1, h.2.2.2.2.2.2.2.2.2.2.2.2.2.2.2.2.2.2.2.2.2.2.2.2.2.2⟩))
theorem Qnd (a : List ByteArray) (h : a.length ≤ maxLen ∧ a.length * 16 ≤ 140737488351232 ∧ ∀ e_ ∈ a, e_.size ≤ 140737488351232) : Qa2 a a = some true := by
  have hl : a.length ≤ 140737488351232 := Qn h.2.1 (by omega)
  have key := Q8r a (fun i => Q58 a a (i : Int)) (some true) (by rw [Q8V, Qi (by omega)]) (fun i x hx hi => by
    rw [Q8V, Qj (by omega), Qg hx, Q0, Q0, Q2E, Bool.not_true, Qb, Qh (by omega)])
  rw [Qg4, bne_self_eq_false, Qb]
  exact key
theorem Q2e (a : List Int) (h : a.length ≤ maxLen ∧ a.length * 8 ≤ 140737488351232 ∧ ∀ e_ ∈ a, (Lit.int .i64 e_).wf = true) : QH a a = some true := by
  have hl : a.length ≤ 140737488351232 := Qn h.2.1 (by omega)
  have key := Q8r a (fun i => Q5Q a a (i : Int)) (some true) (by rw [Q9O, Qi (by omega)]) (fun i x hx hi => by
    rw [Q9O, Qj (by omega), Qg hx, Q0, Q0, bne_self_eq_false, Qb, Qh (by omega)])
  rw [QgO, bne_self_eq_false, Qb]
  exact key
theorem Qom (x : QdS) (h : Q7v x) (h2 : Q1l x.2.2.Q3 x.2.2.Q8 x.2.2.Q2 x.2.2.Qa x.2.2.Q5 x.2.2.Q9 x.2.2.Q1 x.2.2.Q6 x.2.2.Q4 x.2.2.Q3 x.2.2.Q8 x.2.2.Q2 x.2.2.Qa x.2.2.Q5 x.2.2.Q9 x.2.2.Q1 x.2.2.Q6 x.2.2.Q4 = some true) : Q81 x.1 x.2.1 x.2.2.Q3 x.2.2.Q8 x.2.2.Q2 x.2.2.Qa x.2.2.Q5 x.2.2.Q9 x.2.2.Q1 x.2.2.Q6 x.2.2.Q4 x.1 x.2.1 x.2.2.Q3 x.2.2.Q8 x.2.2.Q2 x.2.2.Qa x.2.2.Q5 x.2.2.Q9 x.2.2.Q1 x.2.2.Q6 x.2.2.Q4 = some true := by
  rw [Qhs, h2, Q0]
  simp only [Q2E, bne_self_eq_false, beq_self_eq_true, Bool.not_true, Bool.not_false, Qb, Qf]
theorem Qno (a : List (ByteArray × Int × Q7)) (h : a.length ≤ maxLen ∧ a.length * 152 ≤ 140737488351232 ∧ ∀ e_ ∈ a, Q7v e_) (hr : ∀ x ∈ a, Q81 x.1 x.2.1 x.2.2.Q3 x.2.2.Q8 x.2.2.Q2 x.2.2.Qa x.2.2.Q5 x.2.2.Q9 x.2.2.Q1 x.2.2.Q6 x.2.2.Q4 x.1 x.2.1 x.2.2.Q3 x.2.2.Q8 x.2.2.Q2 x.2.2.Qa x.2.2.Q5 x.2.2.Q9 x.2.2.Q1 x.2.2.Q6 x.2.2.Q4 = some true) : Qa9 a a = some true := by
  have hl : a.length ≤ 140737488351232 := Qn h.2.1 (by omega)
  have key := Q8r a (fun i => Q5e a a (i : Int)) (some true) (by rw [Q96, Qi (by omega)]) (fun i x hx hi => by
    rw [Q96, Qj (by omega), Qg hx, Q0, Q0, hr x (Qo hx), Q0, Bool.not_true, Qb, Qh (by omega)])
  rw [QfQ, bne_self_eq_false, Qb]
  exact key
theorem Qpa (a : List Q7) (h : a.length ≤ maxLen ∧ a.length * 128 ≤ 140737488351232 ∧ ∀ e_ ∈ a, Qd e_) (hr : ∀ x ∈ a, Q1l x.Q3 x.Q8 x.Q2 x.Qa x.Q5 x.Q9 x.Q1 x.Q6 x.Q4 x.Q3 x.Q8 x.Q2 x.Qa x.Q5 x.Q9 x.Q1 x.Q6 x.Q4 = some true) : Qc8 a a = some true := by
  have hl : a.length ≤ 140737488351232 := Qn h.2.1 (by omega)
  have key := Q8r a (fun i => Q6o a a (i : Int)) (some true) (by rw [QaD, Qi (by omega)]) (fun i x hx hi => by
    rw [QaD, Qj (by omega), Qg hx, Q0, Q0, hr x (Qo hx), Q0, Bool.not_true, Qb, Qh (by omega)])
  rw [Qhy, bne_self_eq_false, Qb]
  exact key
theorem QgT (x : Q7) (h : Qd x) : Q1l x.Q3 x.Q8 x.Q2 x.Qa x.Q5 x.Q9 x.Q1 x.Q6 x.Q4 x.Q3 x.Q8 x.Q2 x.Qa x.Q5 x.Q9 x.Q1 x.Q6 x.Q4 = some true := by
  revert h
  refine Q7.ind (P := fun x => Qd x → Q1l x.Q3 x.Q8 x.Q2 x.Qa x.Q5 x.Q9 x.Q1 x.Q6 x.Q4 x.Q3 x.Q8 x.Q2 x.Qa x.Q5 x.Q9 x.Q1 x.Q6 x.Q4 = some true) ?_ x
  intro x ih_Members ih_Base h
  have h := Qd.out h
  have g0 := (Qnd x.Q5 h.2.2.2.2.1)
  have g1 := (Q2e x.Q9 h.2.2.2.2.2.1)
  have g2 := (Qno x.Q1 h.2.2.2.2.2.2.1 (fun y hy => (Qom y (h.2.2.2.2.2.2.1.2.2 y hy) (ih_Members y hy (h.2.2.2.2.2.2.1.2.2 y hy).2.2))))
  have g3 := (Qpa x.Q6 h.2.2.2.2.2.2.2.1 (fun y hy => (ih_Base y hy (h.2.2.2.2.2.2.2.1.2.2 y hy))))
  rw [QjC, g0, Q0, g1, Q0, g2, Q0, g3, Q0]
  simp only [Q2E, bne_self_eq_false, beq_self_eq_true, Bool.not_true, Bool.not_false, Qb, Qf]
theorem Qp6 (x : Qa1) (h : Q8C x) (h0 : QH x.1 x.1 = some true) (h1 : QH x.2 x.2 = some true) : Q79 x.1 x.2 x.1 x.2 = some true := by
  rw [Qim, h0, Q0, h1, Q0]
  simp only [Q2E, bne_self_eq_false, beq_self_eq_true, Bool.not_true, Bool.not_false, Qb, Qf]
theorem Qod (x : QgV) (h : Q5G x) : Q87 x.1 x.2.1 x.2.2 x.1 x.2.1 x.2.2 = some true := by
  rw [QgH]
  simp only [Q2E, bne_self_eq_false, beq_self_eq_true, Bool.not_true, Bool.not_false, Qb, Qf]
theorem Qna (a : List (Int × Int × Bool)) (h : a.length ≤ maxLen ∧ a.length * 24 ≤ 140737488351232 ∧ ∀ e_ ∈ a, Q5G e_) (hr : ∀ x ∈ a, Q87 x.1 x.2.1 x.2.2 x.1 x.2.1 x.2.2 = some true) : Q7p a a = some true := by
  have hl : a.length ≤ 140737488351232 := Qn h.2.1 (by omega)
  have key := Q8r a (fun i => Q5g a a (i : Int)) (some true) (by rw [Q9f, Qi (by omega)]) (fun i x hx hi => by
    rw [Q9f, Qj (by omega), Qg hx, Q0, Q0, hr x (Qo hx), Q0, Bool.not_true, Qb, Qh (by omega)])
  rw [QfR, bne_self_eq_false, Qb]
  exact key
theorem QmK (x : Q6P) (h : Q4V x) (h0 : Q1l x.1.Q3 x.1.Q8 x.1.Q2 x.1.Qa x.1.Q5 x.1.Q9 x.1.Q1 x.1.Q6 x.1.Q4 x.1.Q3 x.1.Q8 x.1.Q2 x.1.Qa x.1.Q5 x.1.Q9 x.1.Q1 x.1.Q6 x.1.Q4 = some true) (h1 : Q79 x.2.1 x.2.2.1 x.2.1 x.2.2.1 = some true) (h2 : QH x.2.2.2.1 x.2.2.2.1 = some true) (h3 : Q7p x.2.2.2.2.1 x.2.2.2.2.1 = some true) : Q5n x.1.Q3 x.1.Q8 x.1.Q2 x.1.Qa x.1.Q5 x.1.Q9 x.1.Q1 x.1.Q6 x.1.Q4 x.2.1 x.2.2.1 x.2.2.2.1 x.2.2.2.2.1 x.2.2.2.2.2.1 x.2.2.2.2.2.2 x.1.Q3 x.1.Q8 x.1.Q2 x.1.Qa x.1.Q5 x.1.Q9 x.1.Q1 x.1.Q6 x.1.Q4 x.2.1 x.2.2.1 x.2.2.2.1 x.2.2.2.2.1 x.2.2.2.2.2.1 x.2.2.2.2.2.2 = some true := by
  rw [Qgi, h0, Q0, h1, Q0, h2, Q0, h3, Q0]
  simp only [Q2E, bne_self_eq_false, beq_self_eq_true, Bool.not_true, Bool.not_false, Qb, Qf]
theorem Qq4 (x : Q9W) (h : Q2s x) (h0 : QH x x = some true) : Q75 x x = some true := by
  rw [Qhw, h0, Q0]
  simp only [Q2E, bne_self_eq_false, beq_self_eq_true, Bool.not_true, Bool.not_false, Qb, Qf]
theorem Qob (a : List (List Int)) (h : a.length ≤ maxLen ∧ a.length * 24 ≤ 140737488351232 ∧ ∀ e_ ∈ a, Q2s e_) (hr : ∀ x ∈ a, Q75 x x = some true) : Q86 a a = some true := by
  have hl : a.length ≤ 140737488351232 := Qn h.2.1 (by omega)
  have key := Q8r a (fun i => Q5Y a a (i : Int)) (some true) (by rw [Q9A, Qi (by omega)]) (fun i x hx hi => by
    rw [Q9A, Qj (by omega), Qg hx, Q0, Q0, hr x (Qo hx), Q0, Bool.not_true, Qb, Qh (by omega)])
  rw [Qh1, bne_self_eq_false, Qb]
  exact key
theorem QkM (x : Q51) (h : Q3z x) (h1 : QH x.2.1 x.2.1 = some true) (h2 : QH x.2.2.1 x.2.2.1 = some true) (h3 : QH x.2.2.2.1 x.2.2.2.1 = some true) (h4 : QH x.2.2.2.2.1 x.2.2.2.2.1 = some true) (h5 : Q86 x.2.2.2.2.2 x.2.2.2.2.2 = some true) : Q16 x.1 x.2.1 x.2.2.1 x.2.2.2.1 x.2.2.2.2.1 x.2.2.2.2.2 x.1 x.2.1 x.2.2.1 x.2.2.2.1 x.2.2.2.2.1 x.2.2.2.2.2 = some true := by
  rw [QeE, h1, Q0, h2, Q0, h3, Q0, h4, Q0, h5, Q0]
  simp only [Q2E, bne_self_eq_false, beq_self_eq_true, Bool.not_true, Bool.not_false, Qb, Qf]
theorem QoP (x : Qa3) (h : Q8A x) (h0 : Q1l x.1.Q3 x.1.Q8 x.1.Q2 x.1.Qa x.1.Q5 x.1.Q9 x.1.Q1 x.1.Q6 x.1.Q4 x.1.Q3 x.1.Q8 x.1.Q2 x.1.Qa x.1.Q5 x.1.Q9 x.1.Q1 x.1.Q6 x.1.Q4 = some true) (h1 : QH x.2.1 x.2.1 = some true) : Q7g x.1.Q3 x.1.Q8 x.1.Q2 x.1.Qa x.1.Q5 x.1.Q9 x.1.Q1 x.1.Q6 x.1.Q4 x.2.1 x.2.2 x.1.Q3 x.1.Q8 x.1.Q2 x.1.Qa x.1.Q5 x.1.Q9 x.1.Q1 x.1.Q6 x.1.Q4 x.2.1 x.2.2 = some true := by
  rw [Qhx, h0, Q0, h1, Q0]
  simp only [Q2E, bne_self_eq_false, beq_self_eq_true, Bool.not_true, Bool.not_false, Qb, Qf]
theorem Ql4 (x : Q50) (h : Q4y x) (h1 : Q7g x.2.1.Q3 x.2.1.Q8 x.2.1.Q2 x.2.1.Qa x.2.1.Q5 x.2.1.Q9 x.2.1.Q1 x.2.1.Q6 x.2.1.Q4 x.2.2.1 x.2.2.2 x.2.1.Q3 x.2.1.Q8 x.2.1.Q2 x.2.1.Qa x.2.1.Q5 x.2.1.Q9 x.2.1.Q1 x.2.1.Q6 x.2.1.Q4 x.2.2.1 x.2.2.2 = some true) : Q4d x.1 x.2.1.Q3 x.2.1.Q8 x.2.1.Q2 x.2.1.Qa x.2.1.Q5 x.2.1.Q9 x.2.1.Q1 x.2.1.Q6 x.2.1.Q4 x.2.2.1 x.2.2.2 x.1 x.2.1.Q3 x.2.1.Q8 x.2.1.Q2 x.2.1.Qa x.2.1.Q5 x.2.1.Q9 x.2.1.Q1 x.2.1.Q6 x.2.1.Q4 x.2.2.1 x.2.2.2 = some true := by
  rw [QeB, h1, Q0]
  simp only [Q2E, bne_self_eq_false, beq_self_eq_true, Bool.not_true, Bool.not_false, Qb, Qf]
theorem QmM (x : Q7d) (h : Q12 x) (h1 : Q16 x.2.1 x.2.2.1 x.2.2.2.1 x.2.2.2.2.1 x.2.2.2.2.2.1 x.2.2.2.2.2.2.1 x.2.1 x.2.2.1 x.2.2.2.1 x.2.2.2.2.1 x.2.2.2.2.2.1 x.2.2.2.2.2.2.1 = some true) (h2 : Q16 x.2.2.2.2.2.2.2.1 x.2.2.2.2.2.2.2.2.1 x.2.2.2.2.2.2.2.2.2.1 x.2.2.2.2.2.2.2.2.2.2.1 x.2.2.2.2.2.2.2.2.2.2.2.1 x.2.2.2.2.2.2.2.2.2.2.2.2 x.2.2.2.2.2.2.2.1 x.2.2.2.2.2.2.2.2.1 x.2.2.2.2.2.2.2.2.2.1 x.2.2.2.2.2.2.2.2.2.2.1 x.2.2.2.2.2.2.2.2.2.2.2.1 x.2.2.2.2.2.2.2.2.2.2.2.2 = some true) : Q5r x.1 x.2.1 x.2.2.1 x.2.2.2.1 x.2.2.2.2.1 x.2.2.2.2.2.1 x.2.2.2.2.2.2.1 x.2.2.2.2.2.2.2.1 x.2.2.2.2.2.2.2.2.1 x.2.2.2.2.2.2.2.2.2.1 x.2.2.2.2.2.2.2.2.2.2.1 x.2.2.2.2.2.2.2.2.2.2.2.1 x.2.2.2.2.2.2.2.2.2.2.2.2 x.1 x.2.1 x.2.2.1 x.2.2.2.1 x.2.2.2.2.1 x.2.2.2.2.2.1 x.2.2.2.2.2.2.1 x.2.2.2.2.2.2.2.1 x.2.2.2.2.2.2.2.2.1 x.2.2.2.2.2.2.2.2.2.1 x.2.2.2.2.2.2.2.2.2.2.1 x.2.2.2.2.2.2.2.2.2.2.2.1 x.2.2.2.2.2.2.2.2.2.2.2.2 = some true := by
  rw [QfY, h1, Q0, h2, Q0]
  simp only [Q2E, bne_self_eq_false, beq_self_eq_true, Bool.not_true, Bool.not_false, Qb, Qf]
theorem QlK (a : List (ByteArray × Int × List Int × List Int × List Int × List Int × List (List Int) × Int × List Int × List Int × List Int × List Int × List (List Int))) (h : a.length ≤ maxLen ∧ a.length * 272 ≤ 140737488351232 ∧ ∀ e_ ∈ a, Q12 e_) (hr : ∀ x ∈ a, Q5r x.1 x.2.1 x.2.2.1 x.2.2.2.1 x.2.2.2.2.1 x.2.2.2.2.2.1 x.2.2.2.2.2.2.1 x.2.2.2.2.2.2.2.1 x.2.2.2.2.2.2.2.2.1 x.2.2.2.2.2.2.2.2.2.1 x.2.2.2.2.2.2.2.2.2.2.1 x.2.2.2.2.2.2.2.2.2.2.2.1 x.2.2.2.2.2.2.2.2.2.2.2.2 x.1 x.2.1 x.2.2.1 x.2.2.2.1 x.2.2.2.2.1 x.2.2.2.2.2.1 x.2.2.2.2.2.2.1 x.2.2.2.2.2.2.2.1 x.2.2.2.2.2.2.2.2.1 x.2.2.2.2.2.2.2.2.2.1 x.2.2.2.2.2.2.2.2.2.2.1 x.2.2.2.2.2.2.2.2.2.2.2.1 x.2.2.2.2.2.2.2.2.2.2.2.2 = some true) : Q6u a a = some true := by
  have hl : a.length ≤ 140737488351232 := Qn h.2.1 (by omega)
  have key := Q8r a (fun i => Q4G a a (i : Int)) (some true) (by rw [Q8u, Qi (by omega)]) (fun i x hx hi => by
    rw [Q8u, Qj (by omega), Qg hx, Q0, Q0, hr x (Qo hx), Q0, Bool.not_true, Qb, Qh (by omega)])
  rw [QeS, bne_self_eq_false, Qb]
  exact key
theorem Qng (x : Q6N) (h : Q54 x) (h0 : Q1l x.1.Q3 x.1.Q8 x.1.Q2 x.1.Qa x.1.Q5 x.1.Q9 x.1.Q1 x.1.Q6 x.1.Q4 x.1.Q3 x.1.Q8 x.1.Q2 x.1.Qa x.1.Q5 x.1.Q9 x.1.Q1 x.1.Q6 x.1.Q4 = some true) (h1 : QH x.2.1 x.2.1 = some true) (h3 : Q6u x.2.2.2 x.2.2.2 = some true) : Q5l x.1.Q3 x.1.Q8 x.1.Q2 x.1.Qa x.1.Q5 x.1.Q9 x.1.Q1 x.1.Q6 x.1.Q4 x.2.1 x.2.2.1 x.2.2.2 x.1.Q3 x.1.Q8 x.1.Q2 x.1.Qa x.1.Q5 x.1.Q9 x.1.Q1 x.1.Q6 x.1.Q4 x.2.1 x.2.2.1 x.2.2.2 = some true := by
  rw [QfN, h0, Q0, h1, Q0, h3, Q0]
  simp only [Q2E, bne_self_eq_false, beq_self_eq_true, Bool.not_true, Bool.not_false, Qb, Qf]
theorem QrH (x : K_Op) (h : Q0J x) (h4 : Q5n x.2.2.2.2.1.Q3 x.2.2.2.2.1.Q8 x.2.2.2.2.1.Q2 x.2.2.2.2.1.Qa x.2.2.2.2.1.Q5 x.2.2.2.2.1.Q9 x.2.2.2.2.1.Q1 x.2.2.2.2.1.Q6 x.2.2.2.2.1.Q4 x.2.2.2.2.2.1 x.2.2.2.2.2.2.1 x.2.2.2.2.2.2.2.1 x.2.2.2.2.2.2.2.2.1 x.2.2.2.2.2.2.2.2.2.1 x.2.2.2.2.2.2.2.2.2.2.1 x.2.2.2.2.1.Q3 x.2.2.2.2.1.Q8 x.2.2.2.2.1.Q2 x.2.2.2.2.1.Qa x.2.2.2.2.1.Q5 x.2.2.2.2.1.Q9 x.2.2.2.2.1.Q1 x.2.2.2.2.1.Q6 x.2.2.2.2.1.Q4 x.2.2.2.2.2.1 x.2.2.2.2.2.2.1 x.2.2.2.2.2.2.2.1 x.2.2.2.2.2.2.2.2.1 x.2.2.2.2.2.2.2.2.2.1 x.2.2.2.2.2.2.2.2.2.2.1 = some true) (h5 : QH x.2.2.2.2.2.2.2.2.2.2.2.1 x.2.2.2.2.2.2.2.2.2.2.2.1 = some true) (h6 : Q16 x.2.2.2.2.2.2.2.2.2.2.2.2.1 x.2.2.2.2.2.2.2.2.2.2.2.2.2.1 x.2.2.2.2.2.2.2.2.2.2.2.2.2.2.1 x.2.2.2.2.2.2.2.2.2.2.2.2.2.2.2.1 x.2.2.2.2.2.2.2.2.2.2.2.2.2.2.2.2.1 x.2.2.2.2.2.2.2.2.2.2.2.2.2.2.2.2.2.1 x.2.2.2.2.2.2.2.2.2.2.2.2.1 x.2.2.2.2.2.2.2.2.2.2.2.2.2.1 x.2.2.2.2.2.2.2.2.2.2.2.2.2.2.1 x.2.2.2.2.2.2.2.2.2.2.2.2.2.2.2.1 x.2.2.2.2.2.2.2.2.2.2.2.2.2.2.2.2.1 x.2.2.2.2.2.2.2.2.2.2.2.2.2.2.2.2.2.1 = some true) (h8 : Q4d x.2.2.2.2.2.2.2.2.2.2.2.2.2.2.2.2.2.2.2.1 x.2.2.2.2.2.2.2.2.2.2.2.2.2.2.2.2.2.2.2.2.1.Q3 x.2.2.2.2.2.2.2.2.2.2.2.2.2.2.2.2.2.2.2.2.1.Q8 x.2.2.2.2.2.2.2.2.2.2.2.2.2.2.2.2.2.2.2.2.1.Q2 x.2.2.2.2.2.2.2.2.2.2.2.2.2.2.2.2.2.2.2.2.1.Qa x.2.2.2.2.2.2.2.2.2.2.2.2.2.2.2.2.2.2.2.2.1.Q5 x.2.2.2.2.2.2.2.2.2.2.2.2.2.2.2.2.2.2.2.2.1.Q9 x.2.2.2.2.2.2.2.2.2.2.2.2.2.2.2.2.2.2.2.2.1.Q1 x.2.2.2.2.2.2.2.2.2.2.2.2.2.2.2.2.2.2.2.2.1.Q6 x.2.2.2.2.2.2.2.2.2.2.2.2.2.2.2.2.2.2.2.2.1.Q4 x.2.2.2.2.2.2.2.2.2.2.2.2.2.2.2.2.2.2.2.2.2.1 x.2.2.2.2.2.2.2.2.2.2.2.2.2.2.2.2.2.2.2.2.2.2.1 x.2.2.2.2.2.2.2.2.2.2.2.2.2.2.2.2.2.2.2.1 x.2.2.2.2.2.2.2.2.2.2.2.2.2.2.2.2.2.2.2.2.1.Q3 x.2.2.2.2.2.2.2.2.2.2.2.2.2.2.2.2.2.2.2.2.1.Q8 x.2.2.2.2.2.2.2.2.2.2.2.2.2.2.2.2.2.2.2.2.1.Q2 x.2.2.2.2.2.2.2.2.2.2.2.2.2.2.2.2.2.2.2.2.1.Qa x.2.2.2.2.2.2.2.2.2.2.2.2.2.2.2.2.2.2.2.2.1.Q5 x.2.2.2.2.2.2.2.2.2.2.2.2.2.2.2.2.2.2.2.2.1.Q9 x.2.2.2.2.2.2.2.2.2.2.2.2.2.2.2.2.2.2.2.2.1.Q1 x.2.2.2.2.2.2.2.2.2.2.2.2.2.2.2.2.2.2.2.2.1.Q6 x.2.2.2.2.2.2.2.2.2.2.2.2.2.2.2.2.2.2.2.2.1.Q4 x.2.2.2.2.2.2.2.2.2.2.2.2.2.2.2.2.2.2.2.2.2.1 x.2.2.2.2.2.2.2.2.2.2.2.2.2.2.2.2.2.2.2.2.2.2.1 = some true) (h9 : Q5l x.2.2.2.2.2.2.2.2.2.2.2.2.2.2.2.2.2.2.2.2.2.2.2.1.Q3 x.2.2.2.2.2.2.2.2.2.2.2.2.2.2.2.2.2.2.2.2.2.2.2.1.Q8 x.2.2.2.2.2.2.2.2.2.2.2.2.2.2.2.2.2.2.2.2.2.2.2.1.Q2 x.2.2.2.2.2.2.2.2.2.2.2.2.2.2.2.2.2.2.2.2.2.2.2.1.Qa x.2.2.2.2.2.2.2.2.2.2.2.2.2.2.2.2.2.2.2.2.2.2.2.1.Q5 x.2.2.2.2.2.2.2.2.2.2.2.2.2.2.2.2.2.2.2.2.2.2.2.1.Q9 x.2.2.2.2.2.2.2.2.2.2.2.2.2.2.2.2.2.2.2.2.2.2.2.1.Q1 x.2.2.2.2.2.2.2.2.2.2.2.2.2.2.2.2.2.2.2.2.2.2.2.1.Q6 x.2.2.2.2.2.2.2.2.2.2.2.2.2.2.2.2.2.2.2.2.2.2.2.1.Q4 x.2.2.2.2.2.2.2.2.2.2.2.2.2.2.2.2.2.2.2.2.2.2.2.2.1 x.2.2.2.2.2.2.2.2.2.2.2.2.2.2.2.2.2.2.2.2.2.2.2.2.2.1 x.2.2.2.2.2.2.2.2.2.2.2.2.2.2.2.2.2.2.2.2.2.2.2.2.2.2 x.2.2.2.2.2.2.2.2.2.2.2.2.2.2.2.2.2.2.2.2.2.2.2.1.Q3 x.2.2.2.2.2.2.2.2.2.2.2.2.2.2.2.2.2.2.2.2.2.2.2.1.Q8 x.2.2.2.2.2.2.2.2.2.2.2.2.2.2.2.2.2.2.2.2.2.2.2.1.Q2 x.2.2.2.2.2.2.2.2.2.2.2.2.2.2.2.2.2.2.2.2.2.2.2.1.Qa x.2.2.2.2.2.2.2.2.2.2.2.2.2.2.2.2.2.2.2.2.2.2.2.1.Q5 x.2.2.2.2.2.2.2.2.2.2.2.2.2.2.2.2.2.2.2.2.2.2.2.1.Q9 x.2.2.2.2.2.2.2.2.2.2.2.2.2.2.2.2.2.2.2.2.2.2.2.1.Q1 x.2.2.2.2.2.2.2.2.2.2.2.2.2.2.2.2.2.2.2.2.2.2.2.1.Q6 x.2.2.2.2.2.2.2.2.2.2.2.2.2.2.2.2.2.2.2.2.2.2.2.1.Q4 x.2.2.2.2.2.2.2.2.2.2.2.2.2.2.2.2.2.2.2.2.2.2.2.2.1 x.2.2.2.2.2.2.2.2.2.2.2.2.2.2.2.2.2.2.2.2.2.2.2.2.2.1 x.2.2.2.2.2.2.2.2.2.2.2.2.2.2.2.2.2.2.2.2.2.2.2.2.2.2 = some true) : QcE x.1 x.2.1 x.2.2.1 x.2.2.2.1 x.2.2.2.2.1.Q3 x.2.2.2.2.1.Q8 x.2.2.2.2.1.Q2 x.2.2.2.2.1.Qa x.2.2.2.2.1.Q5 x.2.2.2.2.1.Q9 x.2.2.2.2.1.Q1 x.2.2.2.2.1.Q6 x.2.2.2.2.1.Q4 x.2.2.2.2.2.1 x.2.2.2.2.2.2.1 x.2.2.2.2.2.2.2.1 x.2.2.2.2.2.2.2.2.1 x.2.2.2.2.2.2.2.2.2.1 x.2.2.2.2.2.2.2.2.2.2.1 x.2.2.2.2.2.2.2.2.2.2.2.1 x.2.2.2.2.2.2.2.2.2.2.2.2.1 x.2.2.2.2.2.2.2.2.2.2.2.2.2.1 x.2.2.2.2.2.2.2.2.2.2.2.2.2.2.1 x.2.2.2.2.2.2.2.2.2.2.2.2.2.2.2.1 x.2.2.2.2.2.2.2.2.2.2.2.2.2.2.2.2.1 x.2.2.2.2.2.2.2.2.2.2.2.2.2.2.2.2.2.1 x.2.2.2.2.2.2.2.2.2.2.2.2.2.2.2.2.2.2.1 x.2.2.2.2.2.2.2.2.2.2.2.2.2.2.2.2.2.2.2.1 x.2.2.2.2.2.2.2.2.2.2.2.2.2.2.2.2.2.2.2.2.1.Q3 x.2.2.2.2.2.2.2.2.2.2.2.2.2.2.2.2.2.2.2.2.1.Q8 x.2.2.2.2.2.2.2.2.2.2.2.2.2.2.2.2.2.2.2.2.1.Q2 x.2.2.2.2.2.2.2.2.2.2.2.2.2.2.2.2.2.2.2.2.1.Qa x.2.2.2.2.2.2.2.2.2.2.2.2.2.2.2.2.2.2.2.2.1.Q5 x.2.2.2.2.2.2.2.2.2.2.2.2.2.2.2.2.2.2.2.2.1.Q9 x.2.2.2.2.2.2.2.2.2.2.2.2.2.2.2.2.2.2.2.2.1.Q1 x.2.2.2.2.2.2.2.2.2.2.2.2.2.2.2.2.2.2.2.2.1.Q6 x.2.2.2.2.2.2.2.2.2.2.2.2.2.2.2.2.2.2.2.2.1.Q4 x.2.2.2.2.2.2.2.2.2.2.2.2.2.2.2.2.2.2.2.2.2.1 x.2.2.2.2.2.2.2.2.2.2.2.2.2.2.2.2.2.2.2.2.2.2.1 x.2.2.2.2.2.2.2.2.2.2.2.2.2.2.2.2.2.2.2.2.2.2.2.1.Q3 x.2.2.2.2.2.2.2.2.2.2.2.2.2.2.2.2.2.2.2.2.2.2.2.1.Q8 x.2.2.2.2.2.2.2.2.2.2.2.2.2.2.2.2.2.2.2.2.2.2.2.1.Q2 x.2.2.2.2.2.2.2.2.2.2.2.2.2.2.2.2.2.2.2.2.2.2.2.1.Qa x.2.2.2.2.2.2.2.2.2.2.2.2.2.2.2.2.2.2.2.2.2.2.2.1.Q5 x.2.2.2.2.2.2.2.2.2.2.2.2.2.2.2.2.2.2.2.2.2.2.2.1.Q9 x.2.2.2.2.2.2.2.2.2.2.2.2.2.2.2.2.2.2.2.2.2.2.2.1.Q1 x.2.2.2.2.2.2.2.2.2.2.2.2.2.2.2.2.2.2.2.2.2.2.2.1.Q6 x.2.2.2.2.2.2.2.2.2.2.2.2.2.2.2.2.2.2.2.2.2.2.2.1.Q4 x.2.2.2.2.2.2.2.2.2.2.2.2.2.2.2.2.2.2.2.2.2.2.2.2.1 x.2.2.2.2.2.2.2.2.2.2.2.2.2.2.2.2.2.2.2.2.2.2.2.2.2.1 x.2.2.2.2.2.2.2.2.2.2.2.2.2.2.2.2.2.2.2.2.2.2.2.2.2.2 x.1 x.2.1 x.2.2.1 x.2.2.2.1 x.2.2.2.2.1.Q3 x.2.2.2.2.1.Q8 x.2.2.2.2.1.Q2 x.2.2.2.2.1.Qa x.2.2.2.2.1.Q5 x.2.2.2.2.1.Q9 x.2.2.2.2.1.Q1 x.2.2.2.2.1.Q6 x.2.2.2.2.1.Q4 x.2.2.2.2.2.1 x.2.2.2.2.2.2.1 x.2.2.2.2.2.2.2.1 x.2.2.2.2.2.2.2.2.1 x.2.2.2.2.2.2.2.2.2.1 x.2.2.2.2.2.2.2.2.2.2.1 x.2.2.2.2.2.2.2.2.2.2.2.1 x.2.2.2.2.2.2.2.2.2.2.2.2.1 x.2.2.2.2.2.2.2.2.2.2.2.2.2.1 x.2.2.2.2.2.2.2.2.2.2.2.2.2.2.1 x.2.2.2.2.2.2.2.2.2.2.2.2.2.2.2.1 x.2.2.2.2.2.2.2.2.2.2.2.2.2.2.2.2.1 x.2.2.2.2.2.2.2.2.2.2.2.2.2.2.2.2.2.1 x.2.2.2.2.2.2.2.2.2.2.2.2.2.2.2.2.2.2.1 x.2.2.2.2.2.2.2.2.2.2.2.2.2.2.2.2.2.2.2.1 x.2.2.2.2.2.2.2.2.2.2.2.2.2.2.2.2.2.2.2.2.1.Q3 x.2.2.2.2.2.2.2.2.2.2.2.2.2.2.2.2.2.2.2.2.1.Q8 x.2.2.2.2.2.2.2.2.2.2.2.2.2.2.2.2.2.2.2.2.1.Q2 x.2.2.2.2.2.2.2.2.2.2.2.2.2.2.2.2.2.2.2.2.1.Qa x.2.2.2.2.2.2.2.2.2.2.2.2.2.2.2.2.2.2.2.2.1.Q5 x.2.2.2.2.2.2.2.2.2.2.2.2.2.2.2.2.2.2.2.2.1.Q9 x.2.2.2.2.2.2.2.2.2.2.2.2.2.2.2.2.2.2.2.2.1.Q1 x.2.2.2.2.2.2.2.2.2.2.2.2.2.2.2.2.2.2.2.2.1.Q6 x.2.2.2.2.2.2.2.2.2.2.2.2.2.2.2.2.2.2.2.2.1.Q4 x.2.2.2.2.2.2.2.2.2.2.2.2.2.2.2.2.2.2.2.2.2.1 x.2.2.2.2.2.2.2.2.2.2.2.2.2.2.2.2.2.2.2.2.2.2.1 x.2.2.2.2.2.2.2.2.2.2.2.2.2.2.2.2.2.2.2.2.2.2.2.1.Q3 x.2.2.2.2.2.2.2.2.2.2.2.2.2.2.2.2.2.2.2.2.2.2.2.1.Q8 x.2.2.2.2.2.2.2.2.2.2.2.2.2.2.2.2.2.2.2.2.2.2.2.1.Q2 x.2.2.2.2.2.2.2.2.2.2.2.2.2.2.2.2.2.2.2.2.2.2.2.1.Qa x.2.2.2.2.2.2.2.2.2.2.2.2.2.2.2.2.2.2.2.2.2.2.2.1.Q5 x.2.2.2.2.2.2.2.2.2.2.2.2.2.2.2.2.2.2.2.2.2.2.2.1.Q9 x.2.2.2.2.2.2.2.2.2.2.2.2.2.2.2.2.2.2.2.2.2.2.2.1.Q1 x.2.2.2.2.2.2.2.2.2.2.2.2.2.2.2.2.2.2.2.2.2.2.2.1.Q6 x.2.2.2.2.2.2.2.2.2.2.2.2.2.2.2.2.2.2.2.2.2.2.2.1.Q4 x.2.2.2.2.2.2.2.2.2.2.2.2.2.2.2.2.2.2.2.2.2.2.2.2.1 x.2.2.2.2.2.2.2.2.2.2.2.2.2.2.2.2.2.2.2.2.2.2.2.2.2.1 x.2.2.2.2.2.2.2.2.2.2.2.2.2.2.2.2.2.2.2.2.2.2.2.2.2.2 = some true := by
  rw [QmD, h4, Q0, h5, Q0, h6, Q0, h8, Q0, h9, Q0]
  simp only [Q2E, bne_self_eq_false, beq_self_eq_true, Bool.not_true, Bool.not_false, Qb, Qf]
theorem Qpz (x : Qa1) (h : Q8C x) : Q79 x.1 x.2 x.1 x.2 = some true := (Qp6 x h (Q2e x.1 h.1) (Q2e x.2 h.2))
theorem Qny (x : Q6P) (h : Q4V x) : Q5n x.1.Q3 x.1.Q8 x.1.Q2 x.1.Qa x.1.Q5 x.1.Q9 x.1.Q1 x.1.Q6 x.1.Q4 x.2.1 x.2.2.1 x.2.2.2.1 x.2.2.2.2.1 x.2.2.2.2.2.1 x.2.2.2.2.2.2 x.1.Q3 x.1.Q8 x.1.Q2 x.1.Qa x.1.Q5 x.1.Q9 x.1.Q1 x.1.Q6 x.1.Q4 x.2.1 x.2.2.1 x.2.2.2.1 x.2.2.2.2.1 x.2.2.2.2.2.1 x.2.2.2.2.2.2 = some true := (QmK x h (QgT x.1 h.1) (Qpz (x.2.1, x.2.2.1) ⟨h.2.1, h.2.2.1⟩) (Q2e x.2.2.2.1 h.2.2.2.1) (Qna x.2.2.2.2.1 h.2.2.2.2.1 (fun y hy => (Qod y (h.2.2.2.2.1.2.2 y hy)))))
theorem QpE (x : Q9W) (h : Q2s x) : Q75 x x = some true := (Qq4 x h (Q2e x h))
theorem QaW (x : Q51) (h : Q3z x) : Q16 x.1 x.2.1 x.2.2.1 x.2.2.2.1 x.2.2.2.2.1 x.2.2.2.2.2 x.1 x.2.1 x.2.2.1 x.2.2.2.1 x.2.2.2.2.1 x.2.2.2.2.2 = some true := (QkM x h (Q2e x.2.1 h.2.1) (Q2e x.2.2.1 h.2.2.1) (Q2e x.2.2.2.1 h.2.2.2.1) (Q2e x.2.2.2.2.1 h.2.2.2.2.1) (Qob x.2.2.2.2.2 h.2.2.2.2.2 (fun y hy => (QpE y (h.2.2.2.2.2.2.2 y hy)))))
theorem Qpr (x : Qa3) (h : Q8A x) : Q7g x.1.Q3 x.1.Q8 x.1.Q2 x.1.Qa x.1.Q5 x.1.Q9 x.1.Q1 x.1.Q6 x.1.Q4 x.2.1 x.2.2 x.1.Q3 x.1.Q8 x.1.Q2 x.1.Qa x.1.Q5 x.1.Q9 x.1.Q1 x.1.Q6 x.1.Q4 x.2.1 x.2.2 = some true := (QoP x h (QgT x.1 h.1) (Q2e x.2.1 h.2.1))
theorem Qkt (x : Q50) (h : Q4y x) : Q4d x.1 x.2.1.Q3 x.2.1.Q8 x.2.1.Q2 x.2.1.Qa x.2.1.Q5 x.2.1.Q9 x.2.1.Q1 x.2.1.Q6 x.2.1.Q4 x.2.2.1 x.2.2.2 x.1 x.2.1.Q3 x.2.1.Q8 x.2.1.Q2 x.2.1.Qa x.2.1.Q5 x.2.1.Q9 x.2.1.Q1 x.2.1.Q6 x.2.1.Q4 x.2.2.1 x.2.2.2 = some true := (Ql4 x h (Qpr (x.2.1, x.2.2.1, x.2.2.2) ⟨h.2.1, h.2.2.1, h.2.2.2⟩))
theorem Qnm (x : Q7d) (h : Q12 x) : Q5r x.1 x.2.1 x.2.2.1 x.2.2.2.1 x.2.2.2.2.1 x.2.2.2.2.2.1 x.2.2.2.2.2.2.1 x.2.2.2.2.2.2.2.1 x.2.2.2.2.2.2.2.2.1 x.2.2.2.2.2.2.2.2.2.1 x.2.2.2.2.2.2.2.2.2.2.1 x.2.2.2.2.2.2.2.2.2.2.2.1 x.2.2.2.2.2.2.2.2.2.2.2.2 x.1 x.2.1 x.2.2.1 x.2.2.2.1 x.2.2.2.2.1 x.2.2.2.2.2.1 x.2.2.2.2.2.2.1 x.2.2.2.2.2.2.2.1 x.2.2.2.2.2.2.2.2.1 x.2.2.2.2.2.2.2.2.2.1 x.2.2.2.2.2.2.2.2.2.2.1 x.2.2.2.2.2.2.2.2.2.2.2.1 x.2.2.2.2.2.2.2.2.2.2.2.2 = some true := (QmM x h (QaW (x.2.1, x.2.2.1, x.2.2.2.1, x.2.2.2.2.1, x.2.2.2.2.2.1, x.2.2.2.2.2.2.1) ⟨h.2.1, h.2.2.1, h.2.2.2.1, h.2.2.2.2.1, h.2.2.2.2.2.1, h.2.2.2.2.2.2.1⟩) (QaW (x.2.2.2.2.2.2.2.1, x.2.2.2.2.2.2.2.2.1, x.2.2.2.2.2.2.2.2.2.1, x.2.2.2.2.2.2.2.2.2.2.1, x.2.2.2.2.2.2.2.2.2.2.2.1, x.2.2.2.2.2.2.2.2.2.2.2.2) ⟨h.2.2.2.2.2.2.2.1, h.2.2.2.2.2.2.2.2.1, h.2.2.2.2.2.2.2.2.2.1, h.2.2.2.2.2.2.2.2.2.2.1, h.2.2.2.2.2.2.2.2.2.2.2.1, h.2.2.2.2.2.2.2.2.2.2.2.2⟩))
theorem Qnq (x : Q6N) (h : Q54 x) : Q5l x.1.Q3 x.1.Q8 x.1.Q2 x.1.Qa x.1.Q5 x.1.Q9 x.1.Q1 x.1.Q6 x.1.Q4 x.2.1 x.2.2.1 x.2.2.2 x.1.Q3 x.1.Q8 x.1.Q2 x.1.Qa x.1.Q5 x.1.Q9 x.1.Q1 x.1.Q6 x.1.Q4 x.2.1 x.2.2.1 x.2.2.2 = some true := (Qng x h (QgT x.1 h.1) (Q2e x.2.1 h.2.1) (QlK x.2.2.2 h.2.2.2 (fun y hy => (Qnm y (h.2.2.2.2.2 y hy)))))
theorem QrK (x : K_Op) (h : Q0J x) : QcE x.1 x.2.1 x.2.2.1 x.2.2.2.1 x.2.2.2.2.1.Q3 x.2.2.2.2.1.Q8 x.2.2.2.2.1.Q2 x.2.2.2.2.1.Qa x.2.2.2.2.1.Q5 x.2.2.2.2.1.Q9 x.2.2.2.2.1.Q1 x.2.2.2.2.1.Q6 x.2.2.2.2.1.Q4 x.2.2.2.2.2.1 x.2.2.2.2.2.2.1 x.2.2.2.2.2.2.2.1 x.2.2.2.2.2.2.2.2.1 x.2.2.2.2.2.2.2.2.2.1 x.2.2.2.2.2.2.2.2.2.2.1 x.2.2.2.2.2.2.2.2.2.2.2.1 x.2.2.2.2.2.2.2.2.2.2.2.2.1 x.2.2.2.2.2.2.2.2.2.2.2.2.2.1 x.2.2.2.2.2.2.2.2.2.2.2.2.2.2.1 x.2.2.2.2.2.2.2.2.2.2.2.2.2.2.2.1 x.2.2.2.2.2.2.2.2.2.2.2.2.2.2.2.2.1 x.2.2.2.2.2.2.2.2.2.2.2.2.2.2.2.2.2.1 x.2.2.2.2.2.2.2.2.2.2.2.2.2.2.2.2.2.2.1 x.2.2.2.2.2.2.2.2.2.2.2.2.2.2.2.2.2.2.2.1 x.2.2.2.2.2.2.2.2.2.2.2.2.2.2.2.2.2.2.2.2.1.Q3 x.2.2.2.2.2.2.2.2.2.2.2.2.2.2.2.2.2.2.2.2.1.Q8 x.2.2.2.2.2.2.2.2.2.2.2.2.2.2.2.2.2.2.2.2.1.Q2 x.2.2.2.2.2.2.2.2.2.2.2.2.2.2.2.2.2.2.2.2.1.Qa x.2.2.2.2.2.2.2.2.2.2.2.2.2.2.2.2.2.2.2.2.1.Q5 x.2.2.2.2.2.2.2.2.2.2.2.2.2.2.2.2.2.2.2.2.1.Q9 x.2.2.2.2.2.2.2.2.2.2.2.2.2.2.2.2.2.2.2.2.1.Q1 x.2.2.2.2.2.2.2.2.2.2.2.2.2.2.2.2.2.2.2.2.1.Q6 x.2.2.2.2.2.2.2.2.2.2.2.2.2.2.2.2.2.2.2.2.1.Q4 x.2.2.2.2.2.2.2.2.2.2.2.2.2.2.2.2.2.2.2.2.2.1 x.2.2.2.2.2.2.2.2.2.2.2.2.2.2.2.2.2.2.2.2.2.2.1 x.2.2.2.2.2.2.2.2.2.2.2.2.2.2.2.2.2.2.2.2.2.2.2.1.Q3 x.2.2.2.2.2.2.2.2.2.2.2.2.2.2.2.2.2.2.2.2.2.2.2.1.Q8 x.2.2.2.2.2.2.2.2.2.2.2.2.2.2.2.2.2.2.2.2.2.2.2.1.Q2 x.2.2.2.2.2.2.2.2.2.2.2.2.2.2.2.2.2.2.2.2.2.2.2.1.Qa x.2.2.2.2.2.2.2.2.2.2.2.2.2.2.2.2.2.2.2.2.2.2.2.1.Q5 x.2.2.2.2.2.2.2.2.2.2.2.2.2.2.2.2.2.2.2.2.2.2.2.1.Q9 x.2.2.2.2.2.2.2.2.2.2.2.2.2.2.2.2.2.2.2.2.2.2.2.1.Q1 x.2.2.2.2.2.2.2.2.2.2.2.2.2.2.2.2.2.2.2.2.2.2.2.1.Q6 x.2.2.2.2.2.2.2.2.2.2.2.2.2.2.2.2.2.2.2.2.2.2.2.1.Q4 x.2.2.2.2.2.2.2.2.2.2.2.2.2.2.2.2.2.2.2.2.2.2.2.2.1 x.2.2.2.2.2.2.2.2.2.2.2.2.2.2.2.2.2.2.2.2.2.2.2.2.2.1 x.2.2.2.2.2.2.2.2.2.2.2.2.2.2.2.2.2.2.2.2.2.2.2.2.2.2 x.1 x.2.1 x.2.2.1 x.2.2.2.1 x.2.2.2.2.1.Q3 x.2.2.2.2.1.Q8 x.2.2.2.2.1.Q2 x.2.2.2.2.1.Qa x.2.2.2.2.1.Q5 x.2.2.2.2.1.Q9 x.2.2.2.2.1.Q1 x.2.2.2.2.1.Q6 x.2.2.2.2.1.Q4 x.2.2.2.2.2.1 x.2.2.2.2.2.2.1 x.2.2.2.2.2.2.2.1 x.2.2.2.2.2.2.2.2.1 x.2.2.2.2.2.2.2.2.2.1 x.2.2.2.2.2.2.2.2.2.2.1 x.2.2.2.2.2.2.2.2.2.2.2.1 x.2.2.2.2.2.2.2.2.2.2.2.2.1 x.2.2.2.2.2.2.2.2.2.2.2.2.2.1 x.2.2.2.2.2.2.2.2.2.2.2.2.2.2.1 x.2.2.2.2.2.2.2.2.2.2.2.2.2.2.2.1 x.2.2.2.2.2.2.2.2.2.2.2.2.2.2.2.2.1 x.2.2.2.2.2.2.2.2.2.2.2.2.2.2.2.2.2.1 x.2.2.2.2.2.2.2.2.2.2.2.2.2.2.2.2.2.2.1 x.2.2.2.2.2.2.2.2.2.2.2.2.2.2.2.2.2.2.2.1 x.2.2.2.2.2.2.2.2.2.2.2.2.2.2.2.2.2.2.2.2.1.Q3 x.2.2.2.2.2.2.2.2.2.2.2.2.2.2.2.2.2.2.2.2.1.Q8 x.2.2.2.2.2.2.2.2.2.2.2.2.2.2.2.2.2.2.2.2.1.Q2 x.2.2.2.2.2.2.2.2.2.2.2.2.2.2.2.2.2.2.2.2.1.Qa x.2.2.2.2.2.2.2.2.2.2.2.2.2.2.2.2.2.2.2.2.1.Q5 x.2.2.2.2.2.2.2.2.2.2.2.2.2.2.2.2.2.2.2.2.1.Q9 x.2.2.2.2.2.2.2.2.2.2.2.2.2.2.2.2.2.2.2.2.1.Q1 x.2.2.2.2.2.2.2.2.2.2.2.2.2.2.2.2.2.2.2.2.1.Q6 x.2.2.2.2.2.2.2.2.2.2.2.2.2.2.2.2.2.2.2.2.1.Q4 x.2.2.2.2.2.2.2.2.2.2.2.2.2.2.2.2.2.2.2.2.2.1 x.2.2.2.2.2.2.2.2.2.2.2.2.2.2.2.2.2.2.2.2.2.2.1 x.2.2.2.2.2.2.2.2.2.2.2.2.2.2.2.2.2.2.2.2.2.2.2.1.Q3 x.2.2.2.2.2.2.2.2.2.2.2.2.2.2.2.2.2.2.2.2.2.2.2.1.Q8 x.2.2.2.2.2.2.2.2.2.2.2.2.2.2.2.2.2.2.2.2.2.2.2.1.Q2 x.2.2.2.2.2.2.2.2.2.2.2.2.2.2.2.2.2.2.2.2.2.2.2.1.Qa x.2.2.2.2.2.2.2.2.2.2.2.2.2.2.2.2.2.2.2.2.2.2.2.1.Q5 x.2.2.2.2.2.2.2.2.2.2.2.2.2.2.2.2.2.2.2.2.2.2.2.1.Q9 x.2.2.2.2.2.2.2.2.2.2.2.2.2.2.2.2.2.2.2.2.2.2.2.1.Q1 x.2.2.2.2.2.2.2.2.2.2.2.2.2.2.2.2.2.2.2.2.2.2.2.1.Q6 x.2.2.2.2.2.2.2.2.2.2.2.2.2.2.2.2.2.2.2.2.2.2.2.1.Q4 x.2.2.2.2.2.2.2.2.2.2.2.2.2.2.2.2.2.2.2.2.2.2.2.2.1 x.2.2.2.2.2.2.2.2.2.2.2.2.2.2.2.2.2.2.2.2.2.2.2.2.2.1 x.2.2.2.2.2.2.2.2.2.2.2.2.2.2.2.2.2.2.2.2.2.2.2.2.2.2 = some true := (QrH x h (Qny (x.2.2.2.2.1, x.2.2.2.2.2.1, x.2.2.2.2.2.2.1, x.2.2.2.2.2.2.2.1, x.2.2.2.2.2.2.2.2.1, x.2.2.2.2.2.2.2.2.2.1, x.2.2.2.2.2.2.2.2.2.2.1) ⟨h.2.2.2.2.1, h.2.2.2.2.2.1, h.2.2.2.2.2.2.1, h.2.2.2.2.2.2.2.1, h.2.2.2.2.2.2.2.2.1, h.2.2.2.2.2.2.2.2.2.1, h.2.2.2.2.2.2.2.2.2.2.1⟩) (Q2e x.2.2.2.2.2.2.2.2.2.2.2.1 h.2.2.2.2.2.2.2.2.2.2.2.1) (QaW (x.2.2.2.2.2.2.2.2.2.2.2.2.1, x.2.2.2.2.2.2.2.2.2.2.2.2.2.1, x.2.2.2.2.2.2.2.2.2.2.2.2.2.2.1, x.2.2.2.2.2.2.2.2.2.2.2.2.2.2.2.1, x.2.2.2.2.2.2.2.2.2.2.2.2.2.2.2.2.1, x.2.2.2.2.2.2.2.2.2.2.2.2.2.2.2.2.2.1) ⟨h.2.2.2.2.2.2.2.2.2.2.2.2.1, h.2.2.2.2.2.2.2.2.2.2.2.2.2.1, h.2.2.2.2.2.2.2.2.2.2.2.2.2.2.1, h.2.2.2.2.2.2.2.2.2.2.2.2.2.2.2.1, h.2.2.2.2.2.2.2.2.2.2.2.2.2.2.2.2.1, h.2.2.2.2.2.2.2.2.2.2.2.2.2.2.2.2.2.1⟩) (Qkt (x.2.2.2.2.2.2.2.2.2.2.2.2.2.2.2.2.2.2.2.1, x.2.2.2.2.2.2.2.2.2.2.2.2.2.2.2.2.2.2.2.2.1, x.2.2.2.2.2.2.2.2.2.2.2.2.2.2.2.2.2.2.2.2.2.1, x.2.2.2.2.2.2.2.2.2.2.2.2.2.2.2.2.2.2.2.2.2.2.1) ⟨h.2.2.2.2.2.2.2.2.2.2.2.2.2.2.2.2.2.2.2.1, h.2.2.2.2.2.2.2.2.2.2.2.2.2.2.2.2.2.2.2.2.1, h.2.2.2.2.2.2.2.2.2.2.2.2.2.2.2.2.2.2.2.2.2.1, h.2.2.2.2.2.2.2.2.2.2.2.2.2.2.2.2.2.2.2.2.2.2.1⟩) (Qnq (x.2.2.2.2.2.2.2.2.2.2.2.2.2.2.2.2.2.2.2.2.2.2.2.1, x.2.2.2.2.2.2.2.2.2.2.2.2.2.2.2.2.2.2.2.2.2.2.2.2.1, x.2.2.2.2.2.2.2.2.2.2.2.2.2.2.2.2.2.2.2.2.2.2.2.2.2.1, x.2.2.2.2.2.2.2.2.2.2.2.2.2.2.2.2.2.2.2.2.2.2.2.2.2.2) ⟨h.2.2.2.2.2.2.2.2.2.2.2.2.2.2.2.2.2.2.2.2.2.2.2.1, h.2.2.2.2.2.2.2.2.2.2.2.2.2.2.2.2.2.2.2.2.2.2.2.2.1, h.2.2.2.2.2.2.2.2.2.2.2.2.2.2.2.2.2.2.2.2.2.2.2.2.2.1, h.2.2.2.2.2.2.2.2.2.2.2.2.2.2.2.2.2.2.2.2.2.2.2.2.2.2⟩))
/-! bytesL -/
theorem Qmy (s : ByteArray) (i : Int) : bidx s i = idx (Ve.ofB s) i := by
  unfold bidx idx
  split
  · unfold Ve.ofB
    rw [List.getElem?_map]
    congr 1
    rw [Array.getElem?_toList, getElem?_def, getElem?_def]
    rfl
  · rfl
def inB (l : List Int) : Prop := ∀ x ∈ l, 0 ≤ x ∧ x ≤ 255
theorem Q6f (s : ByteArray) : inB (Ve.ofB s) := by
  intro x hx
  unfold Ve.ofB at hx
  obtain ⟨b, _, rfl⟩ := List.mem_map.1 hx
  have := b.toNat_lt
  omega
theorem Q2q (s : ByteArray) : Ve.toB (Ve.ofB s) = s := by
  unfold Ve.toB Ve.ofB
  rw [List.map_map]
  have : ((fun n : Int => UInt8.ofNat n.toNat) ∘ fun b : UInt8 => (b.toNat : Int)) = id := by funext b; simp
  rw [this, List.map_id]
theorem Q6j {l : List Int} (h : inB l) : Ve.ofB (Ve.toB l) = l := by
  unfold Ve.toB Ve.ofB
  simp only [List.map_map]
  conv => rhs; rw [← List.map_id l]
  refine List.map_congr_left (fun x hx => ?_)
  have := h x hx
  simp only [Function.comp, id]
  rw [UInt8.toNat_ofNat']
  omega
/-! sameE -/
abbrev Q0q {α : Type} (l : List α) : Prop := l.length ≤ 140737488351232
theorem Q8t (a b : List Int) (h : Q0q a) : Q6Q a b = some (eqB a b) := by
  rw [QhR]
  refine Q4J a b (fun i => Q6q a b (i : Int)) (by rw [QaQ, Qi (by omega)]) (fun i x y hx hy hi => ?_)
  rw [QaQ, Qj (by omega), Qg hx, Qg hy, Q0, Q0, Qa7, Qh (by omega)]
theorem Q1a (a b : List Int) (h : Q0q a) : Q1D a b = some (eqB a b) := by
  rw [Qit]
  refine Q4J a b (fun i => Q6n a b (i : Int)) (by rw [QaN, Qi (by omega)]) (fun i x y hx hy hi => ?_)
  rw [QaN, Qj (by omega), Qg hx, Qg hy, Q0, Q0, Qa7, Qh (by omega)]
theorem QfP (a b : List ByteArray) (h : Q0q a) : Qb0 a b = some (eqB a b) := by
  rw [Qhc]
  refine Q4J a b (fun i => Q5R a b (i : Int)) (by rw [Q9N, Qi (by omega)]) (fun i x y hx hy hi => ?_)
  rw [Q9N, Qj (by omega), Qg hx, Qg hy, Q0, Q0, Q27, Qh (by omega)]
theorem Qh5 (a b : List (Int × Int × Bool)) (h : Q0q a) : Qck a b = some (eqB a b) := by
  rw [Qiw]
  refine Q4J a b (fun i => Q6t a b (i : Int)) (by rw [Qaz, Qi (by omega)]) (fun i x y hx hy hi => ?_)
  rw [Qaz, Qj (by omega), Qg hx, Qg hy, Q0, Q0, QV, QV, Q24, Q24, Q24, Qh (by omega)]
theorem QcM (a b : List (List Int)) (h : Q0q a) (h' : ∀ x ∈ a, Q0q x) : Q6Y a b = some (eqB a b) := by
  rw [Qdh]
  refine Q4J a b (fun i => Q3q a b (i : Int)) (by rw [Q6J, Qi (by omega)]) (fun i x y hx hy hi => ?_)
  rw [Q6J, Qj (by omega), Qg hx, Qg hy, Q0, Q0, Q1a _ _ (h' x (Qo hx)), Q0, Qh (by omega)]
theorem Q5H (a b : List Int) (h : Q0q a) : QQ a b = some (eqB a b) := by
  rw [Qad]
  refine Q4J a b (fun i => Q1N a b (a.length : Int) (i : Int)) (by rw [Q4q, Qi (by omega)]) (fun i x y hx hy hi => ?_)
  rw [Q4q, Qj (by omega), Qg hx, Qg hy, Q0, Q0, Qa7, Qh (by omega)]
theorem QqP (a b : List ByteArray) (h : Q0q a) : Q3o a b = some (eqB a b) := by
  rw [Q9k]
  refine Q4J a b (fun i => Q1u a b (a.length : Int) (i : Int)) (by rw [Q3R, Qi (by omega)]) (fun i x y hx hy hi => ?_)
  rw [Q3R, Qj (by omega), Qg hx, Qg hy, Q0, Q0, Q27, Qh (by omega)]
theorem QmQ (a b : List (Int × Int × Bool)) (h : Q0q a) : Q1x a b = some (eqB a b) := by
  rw [Q5U]
  refine Q4J a b (fun i => Q0u a b (a.length : Int) (i : Int)) (by rw [Q2h, Qi (by omega)]) (fun i x y hx hy hi => ?_)
  rw [Q2h, Qj (by omega), Qg hx, Qg hy, Q0, Q0, QV, QV, Q24, Q24, Q24, Qh (by omega)]
theorem Qow (a b : List (List Int)) (h : Q0q a) (h' : ∀ x ∈ a, Q0q x) : QY a b = some (eqB a b) := by
  rw [Q1I]
  refine Q4J a b (fun i => QD b a (a.length : Int) (i : Int)) (by rw [Q0i, Qi (by omega)]) (fun i x y hx hy hi => ?_)
  rw [Q0i, Qj (by omega), Qg hx, Qg hy, Q0, Q0, Q5H _ _ (h' x (Qo hx)), Q0, Qh (by omega)]
theorem QmO (a b : List (List Int)) (h : Q0q a) (h' : ∀ x ∈ a, Q0q x) : QR a b = some (eqB a b) := by
  rw [Q1e]
  refine Q4J a b (fun i => Qy b a (a.length : Int) (i : Int)) (by rw [Q08, Qi (by omega)]) (fun i x y hx hy hi => ?_)
  rw [Q08, Qj (by omega), Qg hx, Qg hy, Q0, Q0, Qg9, Q5H _ _ (h' x (Qo hx)), Q0, Q0, Qh (by omega)]
/-! selections -/
abbrev SelK := Int × List Int × List Int × List Int × List Int × List (List Int)
def Q6X (s : SelK) : Prop := Q0q s.2.1 ∧ Q0q s.2.2.1 ∧ Q0q s.2.2.2.1 ∧ Q0q s.2.2.2.2.1 ∧ Q0q s.2.2.2.2.2 ∧ ∀ x ∈ s.2.2.2.2.2, Q0q x
theorem Qci (a b : SelK) (h : Q6X a) : Q3m a.1 a.2.1 a.2.2.1 a.2.2.2.1 a.2.2.2.2.1 a.2.2.2.2.2 b.1 b.2.1 b.2.2.1 b.2.2.2.1 b.2.2.2.2.1 b.2.2.2.2.2 = some (eqB a b) := by
  obtain ⟨h1, h2, h3, h4, h5, h6⟩ := h
  rw [Qdi, Q1a _ _ h1, Q1a _ _ h2, Q1a _ _ h3, Q1a _ _ h4, QcM _ _ h5 h6]
  simp only [Q0, Qu, Q24, QV]
theorem Q8O (a b : SelK) (h : Q6X a) : Q2u a.1 a.2.1 a.2.2.1 a.2.2.2.1 a.2.2.2.2.1 a.2.2.2.2.2 b.1 b.2.1 b.2.2.1 b.2.2.2.1 b.2.2.2.2.1 b.2.2.2.2.2 = some (eqB a b) := by
  obtain ⟨h1, h2, h3, h4, h5, h6⟩ := h
  rw [Qdd, Q4t, Q4t, Q0, Q0, Qow [a.2.1, a.2.2.1, a.2.2.2.1, a.2.2.2.2.1] _ (by unfold Q0q; simp) (fun x hx => by simp only [List.mem_cons, List.not_mem_nil, or_false] at hx; rcases hx with rfl | rfl | rfl | rfl <;> assumption), QmO _ _ h5 h6]
  simp only [Q0, Qu, Q24, QV]
  have e : eqB [a.2.1, a.2.2.1, a.2.2.2.1, a.2.2.2.2.1] [b.2.1, b.2.2.1, b.2.2.2.1, b.2.2.2.2.1] = (eqB a.2.1 b.2.1 && (eqB a.2.2.1 b.2.2.1 && (eqB a.2.2.2.1 b.2.2.2.1 && eqB a.2.2.2.2.1 b.2.2.2.2.1))) := by
    rw [Bool.eq_iff_iff]
    simp only [Bool.and_eq_true, Q37, List.cons.injEq, and_true]
  rw [e]
  simp only [Bool.and_assoc]
/-! mappings -/
abbrev MapK := ByteArray × Int × List Int × List Int × List Int × List Int × List (List Int) × Int × List Int × List Int × List Int × List Int × List (List Int)
def mapS (m : MapK) : SelK := (m.2.1, m.2.2.1, m.2.2.2.1, m.2.2.2.2.1, m.2.2.2.2.2.1, m.2.2.2.2.2.2.1)
def mapT (m : MapK) : SelK := m.2.2.2.2.2.2.2
theorem QnO (a b : MapK) : eqB a b = (eqB a.1 b.1 && (eqB (mapS a) (mapS b) && eqB (mapT a) (mapT b))) := by
  unfold mapS mapT
  simp only [QV, Bool.and_assoc]
def QnM (l : List MapK) : Prop := Q0q l ∧ ∀ m ∈ l, Q6X (mapS m) ∧ Q6X (mapT m)
theorem QpJ (a b : List MapK) (h : QnM a) : QG a b = some (eqB a b) := by
  obtain ⟨h, h'⟩ := h
  rw [Q0O]
  refine Q4J a b (fun i => Qs b a (a.length : Int) (i : Int)) (by rw [QX, Qi (by omega)]) (fun i x y hx hy hi => ?_)
  have e1 := Q8O (mapS x) (mapS y) (h' x (Qo hx)).1
  have e2 := Q8O (mapT x) (mapT y) (h' x (Qo hx)).2
  unfold mapS at e1
  unfold mapT at e2
  dsimp only at e1
  rw [QX, Qj (by omega), Qg hx, Qg hy, Q0, Q0, QeR, e1, e2, QnO]
  simp only [Q0, Qu, Q27]
  rw [Qh (by omega)]; rfl
/-! types -/
theorem QrW {x y : Q7} : x = y ↔ x.Q3 = y.Q3 ∧ x.Q8 = y.Q8 ∧ x.Q2 = y.Q2 ∧ x.Qa = y.Qa ∧ x.Q5 = y.Q5 ∧ x.Q9 = y.Q9 ∧ x.Q1 = y.Q1 ∧ x.Q6 = y.Q6 ∧ x.Q4 = y.Q4 := by
  constructor
  · rintro rfl; simp
  · rintro ⟨h1, h2, h3, h4, h5, h6, h7, h8, h9⟩
    rw [← Q7.eta x, ← Q7.eta y, h1, h2, h3, h4, h5, h6, h7, h8, h9]
theorem Qly (x y : Q7) : eqB x y = (eqB x.Q3 y.Q3 && (eqB x.Q8 y.Q8 && (eqB x.Q2 y.Q2 && (eqB x.Qa y.Qa && (eqB x.Q5 y.Q5 && (eqB x.Q9 y.Q9 && (eqB x.Q1 y.Q1 && (eqB x.Q6 y.Q6 && eqB x.Q4 y.Q4)))))))) := by
  rw [Bool.eq_iff_iff]
  simp only [Bool.and_eq_true, Q37]
  exact QrW
theorem Q8v {x : Q7} (h : Qd x) : Q0q x.Q5 ∧ Q0q x.Q9 ∧ Q0q x.Q1 ∧ Q0q x.Q6 ∧ (∀ m ∈ x.Q1, Qd m.2.2) ∧ ∀ b ∈ x.Q6, Qd b := by
  have h := Qd.out h
  exact ⟨Qn h.2.2.2.2.1.2.1 (by omega), Qn h.2.2.2.2.2.1.2.1 (by omega), Qn h.2.2.2.2.2.2.1.2.1 (by omega), Qn h.2.2.2.2.2.2.2.1.2.1 (by omega), fun m hm => (h.2.2.2.2.2.2.1.2.2 m hm).2.2, fun b hb => h.2.2.2.2.2.2.2.1.2.2 b hb⟩
theorem Qlp (a b : List (ByteArray × Int × Q7)) (h : Q0q a) (ih : ∀ m ∈ a, ∀ y : Q7, Q0W m.2.2.Q3 m.2.2.Q8 m.2.2.Q2 m.2.2.Qa m.2.2.Q5 m.2.2.Q9 m.2.2.Q1 m.2.2.Q6 m.2.2.Q4 y.Q3 y.Q8 y.Q2 y.Qa y.Q5 y.Q9 y.Q1 y.Q6 y.Q4 = some (eqB m.2.2 y)) : QL a b = some (eqB a b) := by
  rw [Q10]
  refine Q4J a b (fun i => Qx b a (a.length : Int) (i : Int)) (by rw [Q01, Qi (by omega)]) (fun i x y hx hy hi => ?_)
  rw [Q01, Qj (by omega), Qg hx, Qg hy, Q0, Q0, Qfh, ih x (Qo hx) y.2.2]
  simp only [Q0, Qu, Q27, Q24, QV]
  rw [Qh (by omega)]
theorem Qol (a b : List Q7) (h : Q0q a) (ih : ∀ m ∈ a, ∀ y : Q7, Q0W m.Q3 m.Q8 m.Q2 m.Qa m.Q5 m.Q9 m.Q1 m.Q6 m.Q4 y.Q3 y.Q8 y.Q2 y.Qa y.Q5 y.Q9 y.Q1 y.Q6 y.Q4 = some (eqB m y)) : QW a b = some (eqB a b) := by
  rw [Q1z]
  refine Q4J a b (fun i => QB b a (a.length : Int) (i : Int)) (by rw [Q0g, Qi (by omega)]) (fun i x y hx hy hi => ?_)
  rw [Q0g, Qj (by omega), Qg hx, Qg hy, Q0, Q0, ih x (Qo hx) y, Q0, Qh (by omega)]
theorem Q8d (x : Q7) (h : Qd x) : ∀ y : Q7, Q0W x.Q3 x.Q8 x.Q2 x.Qa x.Q5 x.Q9 x.Q1 x.Q6 x.Q4 y.Q3 y.Q8 y.Q2 y.Qa y.Q5 y.Q9 y.Q1 y.Q6 y.Q4 = some (eqB x y) := by
  revert h
  refine Q7.ind (P := fun x => Qd x → ∀ y : Q7, Q0W x.Q3 x.Q8 x.Q2 x.Qa x.Q5 x.Q9 x.Q1 x.Q6 x.Q4 y.Q3 y.Q8 y.Q2 y.Qa y.Q5 y.Q9 y.Q1 y.Q6 y.Q4 = some (eqB x y)) ?_ x
  intro x ih1 ih2 h y
  obtain ⟨l1, l2, l3, l4, k1, k2⟩ := Q8v h
  rw [QgW, QqP _ _ l1, Q5H _ _ l2, Qlp _ _ l3 (fun m hm y => ih1 m hm (k1 m hm) y), Qol _ _ l4 (fun m hm y => ih2 m hm (k2 m hm) y), Qly]
  simp only [Q0, Qu, Q24]
  cases eqB x.Q3 y.Q3 <;> cases eqB x.Q8 y.Q8 <;> cases eqB x.Q2 y.Q2 <;> cases eqB x.Qa y.Qa <;> cases eqB x.Q4 y.Q4 <;> simp
theorem QaZ (x : Q7) (h : Qd x) : ∀ y : Q7, Q2T x.Q3 x.Q8 x.Q2 x.Qa x.Q5 x.Q9 x.Q1 x.Q6 x.Q4 y.Q3 y.Q8 y.Q2 y.Qa y.Q5 y.Q9 y.Q1 y.Q6 y.Q4 = some (eqB x y) := by
  revert h
  refine Q7.ind (P := fun x => Qd x → ∀ y : Q7, Q2T x.Q3 x.Q8 x.Q2 x.Qa x.Q5 x.Q9 x.Q1 x.Q6 x.Q4 y.Q3 y.Q8 y.Q2 y.Qa y.Q5 y.Q9 y.Q1 y.Q6 y.Q4 = some (eqB x y)) ?_ x
  intro x ih1 ih2 h y
  obtain ⟨l1, l2, l3, l4, k1, k2⟩ := Q8v h
  rw [Qhm]
  by_cases hm : x.Q1.length = y.Q1.length
  · by_cases hb : x.Q6.length = y.Q6.length
    · have e9 := QjN x.Q6 y.Q6 hb (fun i => Q4j (i : Int) x.Q3 x.Q8 x.Q2 x.Qa x.Q5 x.Q9 x.Q1 x.Q6 x.Q4 y.Q3 y.Q8 y.Q2 y.Qa y.Q5 y.Q9 y.Q1 y.Q6 y.Q4) false (fun i u v hu hv hi => by
        rw [Q9z, Qj (by omega), Qg hu, Qg hv, Q0, Q0, ih2 u (Qo hu) (k2 u (Qo hu)) v, Q0, Qh (by omega)])
      have e4 := QjN x.Q1 y.Q1 hm (fun i => Q36 (i : Int) x.Q3 x.Q8 x.Q2 x.Qa x.Q5 x.Q9 x.Q1 x.Q6 x.Q4 y.Q3 y.Q8 y.Q2 y.Qa y.Q5 y.Q9 y.Q1 y.Q6 y.Q4) false (fun i u v hu hv hi => by
        rw [Q9x, Qj (by omega), Qg hu, Qg hv]
        simp only [Q0]
        rw [ih1 u (Qo hu) (k1 u (Qo hu)) v.2.2, Q0, QV u v, QV u.2 v.2, Q27, Qa7, Qh (by omega)]
        cases eqB u.1 v.1 <;> cases eqB u.2.1 v.2.1 <;> cases eqB u.2.2 v.2.2 <;> rfl)
      have f9 : Q4j (x.Q6.length : Int) x.Q3 x.Q8 x.Q2 x.Qa x.Q5 x.Q9 x.Q1 x.Q6 x.Q4 y.Q3 y.Q8 y.Q2 y.Qa y.Q5 y.Q9 y.Q1 y.Q6 y.Q4 = some (eqB x.Q5 y.Q5 && eqB x.Q9 y.Q9) := by
        rw [Q9z, Qi (by omega), QfP _ _ l1, Q8t _ _ l2]
        simp only [Q0, Qu]
      have f4 : Q36 (x.Q1.length : Int) x.Q3 x.Q8 x.Q2 x.Qa x.Q5 x.Q9 x.Q1 x.Q6 x.Q4 y.Q3 y.Q8 y.Q2 y.Qa y.Q5 y.Q9 y.Q1 y.Q6 y.Q4 = some (eqB x.Q6 y.Q6 && (eqB x.Q5 y.Q5 && eqB x.Q9 y.Q9)) := by
        rw [Q9x, Qi (by omega)]
        refine Eq.trans e9 ?_
        rw [f9, Qu]
      have g4 : Q36 0 x.Q3 x.Q8 x.Q2 x.Qa x.Q5 x.Q9 x.Q1 x.Q6 x.Q4 y.Q3 y.Q8 y.Q2 y.Qa y.Q5 y.Q9 y.Q1 y.Q6 y.Q4 = some (eqB x.Q1 y.Q1 && (eqB x.Q6 y.Q6 && (eqB x.Q5 y.Q5 && eqB x.Q9 y.Q9))) := by
        refine Eq.trans e4 ?_
        rw [f4, Qu]
      rw [g4, hm, hb, bne_self_eq_false, bne_self_eq_false, Qb, Qb, Qly]
      simp only [Qa7, Q24, Q1Q, Qu]
      cases eqB x.Q3 y.Q3 <;> cases eqB x.Q8 y.Q8 <;> cases eqB x.Q2 y.Q2 <;> cases eqB x.Qa y.Qa <;> cases eqB x.Q4 y.Q4 <;> cases eqB x.Q5 y.Q5 <;> cases eqB x.Q9 y.Q9 <;> simp
    · rw [show ((x.Q6.length : Int) != (y.Q6.length : Int)) = true by rw [bne_iff_ne]; omega, Qf, Qfi (fun e => hb (by rw [e]))]
      simp only [Qc0]
  · rw [show ((x.Q1.length : Int) != (y.Q1.length : Int)) = true by rw [bne_iff_ne]; omega, Qf, Qfi (fun e => hm (by rw [e]))]
    simp only [Qc0]
/-! sameC -/
abbrev ArrK := Q7 × List Int × ByteArray
theorem QlM (a b : ArrK) (h1 : Qd a.1) (h2 : Q0q a.2.1) : Qag a.1.Q3 a.1.Q8 a.1.Q2 a.1.Qa a.1.Q5 a.1.Q9 a.1.Q1 a.1.Q6 a.1.Q4 a.2.1 a.2.2 b.1.Q3 b.1.Q8 b.1.Q2 b.1.Qa b.1.Q5 b.1.Q9 b.1.Q1 b.1.Q6 b.1.Q4 b.2.1 b.2.2 = some (eqB a b) := by
  rw [Qgb, QaZ _ h1, Q1a _ _ h2]
  simp only [Q0, Qu, Q27, QV]
theorem Qlu (a b : ArrK) (h1 : Qd a.1) (h2 : Q0q a.2.1) : Qa5 a.1.Q3 a.1.Q8 a.1.Q2 a.1.Qa a.1.Q5 a.1.Q9 a.1.Q1 a.1.Q6 a.1.Q4 a.2.1 a.2.2 b.1.Q3 b.1.Q8 b.1.Q2 b.1.Qa b.1.Q5 b.1.Q9 b.1.Q1 b.1.Q6 b.1.Q4 b.2.1 b.2.2 = some (eqB a b) := by
  rw [Qg5, Q8d _ h1, Q5H _ _ h2]
  simp only [Q0, Qu, Q27, QV]
abbrev AttK := ByteArray × ArrK
theorem QmA (a b : AttK) (h1 : Qd a.2.1) (h2 : Q0q a.2.2.1) : Q6Z a.1 a.2.1.Q3 a.2.1.Q8 a.2.1.Q2 a.2.1.Qa a.2.1.Q5 a.2.1.Q9 a.2.1.Q1 a.2.1.Q6 a.2.1.Q4 a.2.2.1 a.2.2.2 b.1 b.2.1.Q3 b.2.1.Q8 b.2.1.Q2 b.2.1.Qa b.2.1.Q5 b.2.1.Q9 b.2.1.Q1 b.2.1.Q6 b.2.1.Q4 b.2.2.1 b.2.2.2 = some (eqB a b) := by
  rw [Qdp, QlM a.2 b.2 h1 h2]
  simp only [Q0, Qu, Q27, QV]
theorem Qm4 (a b : AttK) (h1 : Qd a.2.1) (h2 : Q0q a.2.2.1) : Q6S a.1 a.2.1.Q3 a.2.1.Q8 a.2.1.Q2 a.2.1.Qa a.2.1.Q5 a.2.1.Q9 a.2.1.Q1 a.2.1.Q6 a.2.1.Q4 a.2.2.1 a.2.2.2 b.1 b.2.1.Q3 b.2.1.Q8 b.2.1.Q2 b.2.1.Qa b.2.1.Q5 b.2.1.Q9 b.2.1.Q1 b.2.1.Q6 b.2.1.Q4 b.2.2.1 b.2.2.2 = some (eqB a b) := by
  rw [Qdx, Qlu a.2 b.2 h1 h2]
  simp only [Q0, Qu, Q27, QV]
abbrev DsK := Q7 × List Int × List Int × List Int × List (Int × Int × Bool) × ByteArray × Int
def Qo7 (a : DsK) : Prop := Qd a.1 ∧ Q0q a.2.1 ∧ Q0q a.2.2.1 ∧ Q0q a.2.2.2.1 ∧ Q0q a.2.2.2.2.1
theorem QmR (a b : DsK) (h : Qo7 a) : Q8l a.1.Q3 a.1.Q8 a.1.Q2 a.1.Qa a.1.Q5 a.1.Q9 a.1.Q1 a.1.Q6 a.1.Q4 a.2.1 a.2.2.1 a.2.2.2.1 a.2.2.2.2.1 a.2.2.2.2.2.1 a.2.2.2.2.2.2 b.1.Q3 b.1.Q8 b.1.Q2 b.1.Qa b.1.Q5 b.1.Q9 b.1.Q1 b.1.Q6 b.1.Q4 b.2.1 b.2.2.1 b.2.2.2.1 b.2.2.2.2.1 b.2.2.2.2.2.1 b.2.2.2.2.2.2 = some (eqB a b) := by
  obtain ⟨h1, h2, h3, h4, h5⟩ := h
  rw [QeL, QaZ _ h1, Qgc, Q1a _ _ h2, Q1a _ _ h3, Q8t _ _ h4, Qh5 _ _ h5]
  simp only [Q0, Qu, Q27, Q24]
  rw [QV a b, QV a.2 b.2, QV a.2.2 b.2.2, QV a.2.2.2 b.2.2.2, QV a.2.2.2.2 b.2.2.2.2, QV a.2.2.2.2.2 b.2.2.2.2.2]
  simp only [Bool.and_assoc]
theorem QmP (a b : DsK) (h : Qo7 a) : Q8m a.1.Q3 a.1.Q8 a.1.Q2 a.1.Qa a.1.Q5 a.1.Q9 a.1.Q1 a.1.Q6 a.1.Q4 a.2.1 a.2.2.1 a.2.2.2.1 a.2.2.2.2.1 a.2.2.2.2.2.1 a.2.2.2.2.2.2 b.1.Q3 b.1.Q8 b.1.Q2 b.1.Qa b.1.Q5 b.1.Q9 b.1.Q1 b.1.Q6 b.1.Q4 b.2.1 b.2.2.1 b.2.2.2.1 b.2.2.2.2.1 b.2.2.2.2.2.1 b.2.2.2.2.2.2 = some (eqB a b) := by
  obtain ⟨h1, h2, h3, h4, h5⟩ := h
  rw [QeG, Q8d _ h1, Qgj, Q5H _ _ h2, Q5H _ _ h3, Q5H _ _ h4, QmQ _ _ h5]
  simp only [Q0, Qu, Q27, Q24]
  rw [QV a b, QV a.2 b.2, QV a.2.2 b.2.2, QV a.2.2.2 b.2.2.2, QV a.2.2.2.2 b.2.2.2.2, QV a.2.2.2.2.2 b.2.2.2.2.2]
  simp only [Bool.and_assoc]
abbrev VirK := Q7 × List Int × ByteArray × List MapK
def Qlz (a : VirK) : Prop := Qd a.1 ∧ Q0q a.2.1 ∧ QnM a.2.2.2
theorem Qmb (a b : VirK) (h : Qlz a) : Q8i a.1.Q3 a.1.Q8 a.1.Q2 a.1.Qa a.1.Q5 a.1.Q9 a.1.Q1 a.1.Q6 a.1.Q4 a.2.1 a.2.2.1 a.2.2.2 b.1.Q3 b.1.Q8 b.1.Q2 b.1.Qa b.1.Q5 b.1.Q9 b.1.Q1 b.1.Q6 b.1.Q4 b.2.1 b.2.2.1 b.2.2.2 = some (eqB a b) := by
  obtain ⟨h1, h2, h3⟩ := h
  rw [QeN, Q8d _ h1, Q5H _ _ h2, QpJ _ _ h3]
  simp only [Q0, Qu, Q27]
  rw [QV a b, QV a.2 b.2, QV a.2.2 b.2.2]
theorem Qlj (a b : VirK) (h : Qlz a) : Q8j a.1.Q3 a.1.Q8 a.1.Q2 a.1.Qa a.1.Q5 a.1.Q9 a.1.Q1 a.1.Q6 a.1.Q4 a.2.1 a.2.2.1 a.2.2.2 b.1.Q3 b.1.Q8 b.1.Q2 b.1.Qa b.1.Q5 b.1.Q9 b.1.Q1 b.1.Q6 b.1.Q4 b.2.1 b.2.2.1 b.2.2.2 = some (eqB a b) := by
  obtain ⟨h1, h2, h3, h4⟩ := h
  have hl := Q4J a.2.2.2 b.2.2.2 (fun i => Q2V (i : Int) a.1.Q3 a.1.Q8 a.1.Q2 a.1.Qa a.1.Q5 a.1.Q9 a.1.Q1 a.1.Q6 a.1.Q4 a.2.1 a.2.2.1 a.2.2.2 b.1.Q3 b.1.Q8 b.1.Q2 b.1.Qa b.1.Q5 b.1.Q9 b.1.Q1 b.1.Q6 b.1.Q4 b.2.1 b.2.2.1 b.2.2.2) (by rw [Q7O, Qi (by omega)]) (fun i x y hx hy hi => by
    have e1 := Qci (mapS x) (mapS y) (h4 x (Qo hx)).1
    have e2 := Qci (mapT x) (mapT y) (h4 x (Qo hx)).2
    unfold mapS at e1
    unfold mapT at e2
    dsimp only at e1
    rw [Q7O, Qj (by omega), Qg hx, Qg hy, Q0, Q0, e1, e2, QnO, Q27, Qh (by omega), Q0, Q0]
    unfold mapS mapT
    cases eqB x.1 y.1
    · rfl
    · generalize eqB (x.2.1, x.2.2.1, x.2.2.2.1, x.2.2.2.2.1, x.2.2.2.2.2.1, x.2.2.2.2.2.2.1) (y.2.1, y.2.2.1, y.2.2.2.1, y.2.2.2.2.1, y.2.2.2.2.2.1, y.2.2.2.2.2.2.1) = p
      generalize eqB x.2.2.2.2.2.2.2 y.2.2.2.2.2.2.2 = q
      cases p <;> cases q <;> rfl)
  rw [QeI, QaZ _ h1, Q1a _ _ h2, show sif ((a.2.2.2.length : Int) != (b.2.2.2.length : Int)) (some false) (Q2V 0 a.1.Q3 a.1.Q8 a.1.Q2 a.1.Qa a.1.Q5 a.1.Q9 a.1.Q1 a.1.Q6 a.1.Q4 a.2.1 a.2.2.1 a.2.2.2 b.1.Q3 b.1.Q8 b.1.Q2 b.1.Qa b.1.Q5 b.1.Q9 b.1.Q1 b.1.Q6 b.1.Q4 b.2.1 b.2.2.1 b.2.2.2) = _ from hl]
  simp only [Q0, Qu, Q1Q, Q27]
  rw [QV a b, QV a.2 b.2, QV a.2.2 b.2.2]
/-! opL -/
def opDs (a : K_Op) : DsK := (a.2.2.2.2.1, a.2.2.2.2.2.1, a.2.2.2.2.2.2.1, a.2.2.2.2.2.2.2.1, a.2.2.2.2.2.2.2.2.1, a.2.2.2.2.2.2.2.2.2.1, a.2.2.2.2.2.2.2.2.2.2.1)
def Qe3 (a : K_Op) : SelK := (a.2.2.2.2.2.2.2.2.2.2.2.2.1, a.2.2.2.2.2.2.2.2.2.2.2.2.2.1, a.2.2.2.2.2.2.2.2.2.2.2.2.2.2.1, a.2.2.2.2.2.2.2.2.2.2.2.2.2.2.2.1, a.2.2.2.2.2.2.2.2.2.2.2.2.2.2.2.2.1, a.2.2.2.2.2.2.2.2.2.2.2.2.2.2.2.2.2.1)
def QfC (a : K_Op) : AttK := (a.2.2.2.2.2.2.2.2.2.2.2.2.2.2.2.2.2.2.2.1, a.2.2.2.2.2.2.2.2.2.2.2.2.2.2.2.2.2.2.2.2.1, a.2.2.2.2.2.2.2.2.2.2.2.2.2.2.2.2.2.2.2.2.2.1, a.2.2.2.2.2.2.2.2.2.2.2.2.2.2.2.2.2.2.2.2.2.2.1)
def Qeb (a : K_Op) : VirK := (a.2.2.2.2.2.2.2.2.2.2.2.2.2.2.2.2.2.2.2.2.2.2.2.1, a.2.2.2.2.2.2.2.2.2.2.2.2.2.2.2.2.2.2.2.2.2.2.2.2.1, a.2.2.2.2.2.2.2.2.2.2.2.2.2.2.2.2.2.2.2.2.2.2.2.2.2.1, a.2.2.2.2.2.2.2.2.2.2.2.2.2.2.2.2.2.2.2.2.2.2.2.2.2.2)
theorem Qr2 {a : K_Op} (ha : Q0J a) : Qo7 (opDs a) := ⟨ha.2.2.2.2.1, Qn ha.2.2.2.2.2.1.2.1 (by omega), Qn ha.2.2.2.2.2.2.1.2.1 (by omega), Qn ha.2.2.2.2.2.2.2.1.2.1 (by omega), Qn ha.2.2.2.2.2.2.2.2.1.2.1 (by omega)⟩
theorem Qlw {a : K_Op} (ha : Q0J a) : Q6X (Qe3 a) := ⟨Qn ha.2.2.2.2.2.2.2.2.2.2.2.2.2.1.2.1 (by omega), Qn ha.2.2.2.2.2.2.2.2.2.2.2.2.2.2.1.2.1 (by omega), Qn ha.2.2.2.2.2.2.2.2.2.2.2.2.2.2.2.1.2.1 (by omega), Qn ha.2.2.2.2.2.2.2.2.2.2.2.2.2.2.2.2.1.2.1 (by omega), Qn ha.2.2.2.2.2.2.2.2.2.2.2.2.2.2.2.2.2.1.2.1 (by omega), fun x hx => Qn (ha.2.2.2.2.2.2.2.2.2.2.2.2.2.2.2.2.2.1.2.2 x hx).2.1 (by omega)⟩
theorem Qpj {a : K_Op} (ha : Q0J a) : Qlz (Qeb a) := ⟨ha.2.2.2.2.2.2.2.2.2.2.2.2.2.2.2.2.2.2.2.2.2.2.2.1, Qn ha.2.2.2.2.2.2.2.2.2.2.2.2.2.2.2.2.2.2.2.2.2.2.2.2.1.2.1 (by omega), Qn ha.2.2.2.2.2.2.2.2.2.2.2.2.2.2.2.2.2.2.2.2.2.2.2.2.2.2.2.1 (by omega), fun m hm => by
  have q := ha.2.2.2.2.2.2.2.2.2.2.2.2.2.2.2.2.2.2.2.2.2.2.2.2.2.2.2.2 m hm
  exact ⟨⟨Qn q.2.2.1.2.1 (by omega), Qn q.2.2.2.1.2.1 (by omega), Qn q.2.2.2.2.1.2.1 (by omega), Qn q.2.2.2.2.2.1.2.1 (by omega), Qn q.2.2.2.2.2.2.1.2.1 (by omega), fun x hx => Qn (q.2.2.2.2.2.2.1.2.2 x hx).2.1 (by omega)⟩, ⟨Qn q.2.2.2.2.2.2.2.2.1.2.1 (by omega), Qn q.2.2.2.2.2.2.2.2.2.1.2.1 (by omega), Qn q.2.2.2.2.2.2.2.2.2.2.1.2.1 (by omega), Qn q.2.2.2.2.2.2.2.2.2.2.2.1.2.1 (by omega), Qn q.2.2.2.2.2.2.2.2.2.2.2.2.2.1 (by omega), fun x hx => Qn (q.2.2.2.2.2.2.2.2.2.2.2.2.2.2 x hx).2.1 (by omega)⟩⟩⟩
theorem Qnk (a b : K_Op) (ha : Q0J a) : Qd6 a.1 a.2.1 a.2.2.1 a.2.2.2.1 a.2.2.2.2.1.Q3 a.2.2.2.2.1.Q8 a.2.2.2.2.1.Q2 a.2.2.2.2.1.Qa a.2.2.2.2.1.Q5 a.2.2.2.2.1.Q9 a.2.2.2.2.1.Q1 a.2.2.2.2.1.Q6 a.2.2.2.2.1.Q4 a.2.2.2.2.2.1 a.2.2.2.2.2.2.1 a.2.2.2.2.2.2.2.1 a.2.2.2.2.2.2.2.2.1 a.2.2.2.2.2.2.2.2.2.1 a.2.2.2.2.2.2.2.2.2.2.1 a.2.2.2.2.2.2.2.2.2.2.2.1 a.2.2.2.2.2.2.2.2.2.2.2.2.1 a.2.2.2.2.2.2.2.2.2.2.2.2.2.1 a.2.2.2.2.2.2.2.2.2.2.2.2.2.2.1 a.2.2.2.2.2.2.2.2.2.2.2.2.2.2.2.1 a.2.2.2.2.2.2.2.2.2.2.2.2.2.2.2.2.1 a.2.2.2.2.2.2.2.2.2.2.2.2.2.2.2.2.2.1 a.2.2.2.2.2.2.2.2.2.2.2.2.2.2.2.2.2.2.1 a.2.2.2.2.2.2.2.2.2.2.2.2.2.2.2.2.2.2.2.1 a.2.2.2.2.2.2.2.2.2.2.2.2.2.2.2.2.2.2.2.2.1.Q3 a.2.2.2.2.2.2.2.2.2.2.2.2.2.2.2.2.2.2.2.2.1.Q8 a.2.2.2.2.2.2.2.2.2.2.2.2.2.2.2.2.2.2.2.2.1.Q2 a.2.2.2.2.2.2.2.2.2.2.2.2.2.2.2.2.2.2.2.2.1.Qa a.2.2.2.2.2.2.2.2.2.2.2.2.2.2.2.2.2.2.2.2.1.Q5 a.2.2.2.2.2.2.2.2.2.2.2.2.2.2.2.2.2.2.2.2.1.Q9 a.2.2.2.2.2.2.2.2.2.2.2.2.2.2.2.2.2.2.2.2.1.Q1 a.2.2.2.2.2.2.2.2.2.2.2.2.2.2.2.2.2.2.2.2.1.Q6 a.2.2.2.2.2.2.2.2.2.2.2.2.2.2.2.2.2.2.2.2.1.Q4 a.2.2.2.2.2.2.2.2.2.2.2.2.2.2.2.2.2.2.2.2.2.1 a.2.2.2.2.2.2.2.2.2.2.2.2.2.2.2.2.2.2.2.2.2.2.1 a.2.2.2.2.2.2.2.2.2.2.2.2.2.2.2.2.2.2.2.2.2.2.2.1.Q3 a.2.2.2.2.2.2.2.2.2.2.2.2.2.2.2.2.2.2.2.2.2.2.2.1.Q8 a.2.2.2.2.2.2.2.2.2.2.2.2.2.2.2.2.2.2.2.2.2.2.2.1.Q2 a.2.2.2.2.2.2.2.2.2.2.2.2.2.2.2.2.2.2.2.2.2.2.2.1.Qa a.2.2.2.2.2.2.2.2.2.2.2.2.2.2.2.2.2.2.2.2.2.2.2.1.Q5 a.2.2.2.2.2.2.2.2.2.2.2.2.2.2.2.2.2.2.2.2.2.2.2.1.Q9 a.2.2.2.2.2.2.2.2.2.2.2.2.2.2.2.2.2.2.2.2.2.2.2.1.Q1 a.2.2.2.2.2.2.2.2.2.2.2.2.2.2.2.2.2.2.2.2.2.2.2.1.Q6 a.2.2.2.2.2.2.2.2.2.2.2.2.2.2.2.2.2.2.2.2.2.2.2.1.Q4 a.2.2.2.2.2.2.2.2.2.2.2.2.2.2.2.2.2.2.2.2.2.2.2.2.1 a.2.2.2.2.2.2.2.2.2.2.2.2.2.2.2.2.2.2.2.2.2.2.2.2.2.1 a.2.2.2.2.2.2.2.2.2.2.2.2.2.2.2.2.2.2.2.2.2.2.2.2.2.2 b.1 b.2.1 b.2.2.1 b.2.2.2.1 b.2.2.2.2.1.Q3 b.2.2.2.2.1.Q8 b.2.2.2.2.1.Q2 b.2.2.2.2.1.Qa b.2.2.2.2.1.Q5 b.2.2.2.2.1.Q9 b.2.2.2.2.1.Q1 b.2.2.2.2.1.Q6 b.2.2.2.2.1.Q4 b.2.2.2.2.2.1 b.2.2.2.2.2.2.1 b.2.2.2.2.2.2.2.1 b.2.2.2.2.2.2.2.2.1 b.2.2.2.2.2.2.2.2.2.1 b.2.2.2.2.2.2.2.2.2.2.1 b.2.2.2.2.2.2.2.2.2.2.2.1 b.2.2.2.2.2.2.2.2.2.2.2.2.1 b.2.2.2.2.2.2.2.2.2.2.2.2.2.1 b.2.2.2.2.2.2.2.2.2.2.2.2.2.2.1 b.2.2.2.2.2.2.2.2.2.2.2.2.2.2.2.1 b.2.2.2.2.2.2.2.2.2.2.2.2.2.2.2.2.1 b.2.2.2.2.2.2.2.2.2.2.2.2.2.2.2.2.2.1 b.2.2.2.2.2.2.2.2.2.2.2.2.2.2.2.2.2.2.1 b.2.2.2.2.2.2.2.2.2.2.2.2.2.2.2.2.2.2.2.1 b.2.2.2.2.2.2.2.2.2.2.2.2.2.2.2.2.2.2.2.2.1.Q3 b.2.2.2.2.2.2.2.2.2.2.2.2.2.2.2.2.2.2.2.2.1.Q8 b.2.2.2.2.2.2.2.2.2.2.2.2.2.2.2.2.2.2.2.2.1.Q2 b.2.2.2.2.2.2.2.2.2.2.2.2.2.2.2.2.2.2.2.2.1.Qa b.2.2.2.2.2.2.2.2.2.2.2.2.2.2.2.2.2.2.2.2.1.Q5 b.2.2.2.2.2.2.2.2.2.2.2.2.2.2.2.2.2.2.2.2.1.Q9 b.2.2.2.2.2.2.2.2.2.2.2.2.2.2.2.2.2.2.2.2.1.Q1 b.2.2.2.2.2.2.2.2.2.2.2.2.2.2.2.2.2.2.2.2.1.Q6 b.2.2.2.2.2.2.2.2.2.2.2.2.2.2.2.2.2.2.2.2.1.Q4 b.2.2.2.2.2.2.2.2.2.2.2.2.2.2.2.2.2.2.2.2.2.1 b.2.2.2.2.2.2.2.2.2.2.2.2.2.2.2.2.2.2.2.2.2.2.1 b.2.2.2.2.2.2.2.2.2.2.2.2.2.2.2.2.2.2.2.2.2.2.2.1.Q3 b.2.2.2.2.2.2.2.2.2.2.2.2.2.2.2.2.2.2.2.2.2.2.2.1.Q8 b.2.2.2.2.2.2.2.2.2.2.2.2.2.2.2.2.2.2.2.2.2.2.2.1.Q2 b.2.2.2.2.2.2.2.2.2.2.2.2.2.2.2.2.2.2.2.2.2.2.2.1.Qa b.2.2.2.2.2.2.2.2.2.2.2.2.2.2.2.2.2.2.2.2.2.2.2.1.Q5 b.2.2.2.2.2.2.2.2.2.2.2.2.2.2.2.2.2.2.2.2.2.2.2.1.Q9 b.2.2.2.2.2.2.2.2.2.2.2.2.2.2.2.2.2.2.2.2.2.2.2.1.Q1 b.2.2.2.2.2.2.2.2.2.2.2.2.2.2.2.2.2.2.2.2.2.2.2.1.Q6 b.2.2.2.2.2.2.2.2.2.2.2.2.2.2.2.2.2.2.2.2.2.2.2.1.Q4 b.2.2.2.2.2.2.2.2.2.2.2.2.2.2.2.2.2.2.2.2.2.2.2.2.1 b.2.2.2.2.2.2.2.2.2.2.2.2.2.2.2.2.2.2.2.2.2.2.2.2.2.1 b.2.2.2.2.2.2.2.2.2.2.2.2.2.2.2.2.2.2.2.2.2.2.2.2.2.2 = some (eqB a b) := by
  have e1 := QmR (opDs a) (opDs b) (Qr2 ha)
  have e2 := Qci (Qe3 a) (Qe3 b) (Qlw ha)
  have e3 := QmA (QfC a) (QfC b) ha.2.2.2.2.2.2.2.2.2.2.2.2.2.2.2.2.2.2.2.2.1 (Qn ha.2.2.2.2.2.2.2.2.2.2.2.2.2.2.2.2.2.2.2.2.2.1.2.1 (by omega))
  have e4 := Qlj (Qeb a) (Qeb b) (Qpj ha)
  have e5 := Q8t a.2.2.2.2.2.2.2.2.2.2.2.1 b.2.2.2.2.2.2.2.2.2.2.2.1 (Qn ha.2.2.2.2.2.2.2.2.2.2.2.1.2.1 (by omega))
  unfold opDs at e1
  unfold Qe3 at e2
  unfold QfC at e3
  unfold Qeb at e4
  dsimp only at e1 e2 e3 e4
  rw [QiV, e1, e2, e3, e4, e5]
  simp only [Q0, Qu, Q1Q, Qa7, Q24, Q27]
  simp only [QV]
  congr 1
  rw [Bool.eq_iff_iff]
  simp only [Bool.and_eq_true]
  constructor <;> (intro h; simp only [h, and_self])
theorem QmL (a b : K_Op) (ha : Q0J a) : Qaj a.1 a.2.1 a.2.2.1 a.2.2.2.1 a.2.2.2.2.1.Q3 a.2.2.2.2.1.Q8 a.2.2.2.2.1.Q2 a.2.2.2.2.1.Qa a.2.2.2.2.1.Q5 a.2.2.2.2.1.Q9 a.2.2.2.2.1.Q1 a.2.2.2.2.1.Q6 a.2.2.2.2.1.Q4 a.2.2.2.2.2.1 a.2.2.2.2.2.2.1 a.2.2.2.2.2.2.2.1 a.2.2.2.2.2.2.2.2.1 a.2.2.2.2.2.2.2.2.2.1 a.2.2.2.2.2.2.2.2.2.2.1 a.2.2.2.2.2.2.2.2.2.2.2.1 a.2.2.2.2.2.2.2.2.2.2.2.2.1 a.2.2.2.2.2.2.2.2.2.2.2.2.2.1 a.2.2.2.2.2.2.2.2.2.2.2.2.2.2.1 a.2.2.2.2.2.2.2.2.2.2.2.2.2.2.2.1 a.2.2.2.2.2.2.2.2.2.2.2.2.2.2.2.2.1 a.2.2.2.2.2.2.2.2.2.2.2.2.2.2.2.2.2.1 a.2.2.2.2.2.2.2.2.2.2.2.2.2.2.2.2.2.2.1 a.2.2.2.2.2.2.2.2.2.2.2.2.2.2.2.2.2.2.2.1 a.2.2.2.2.2.2.2.2.2.2.2.2.2.2.2.2.2.2.2.2.1.Q3 a.2.2.2.2.2.2.2.2.2.2.2.2.2.2.2.2.2.2.2.2.1.Q8 a.2.2.2.2.2.2.2.2.2.2.2.2.2.2.2.2.2.2.2.2.1.Q2 a.2.2.2.2.2.2.2.2.2.2.2.2.2.2.2.2.2.2.2.2.1.Qa a.2.2.2.2.2.2.2.2.2.2.2.2.2.2.2.2.2.2.2.2.1.Q5 a.2.2.2.2.2.2.2.2.2.2.2.2.2.2.2.2.2.2.2.2.1.Q9 a.2.2.2.2.2.2.2.2.2.2.2.2.2.2.2.2.2.2.2.2.1.Q1 a.2.2.2.2.2.2.2.2.2.2.2.2.2.2.2.2.2.2.2.2.1.Q6 a.2.2.2.2.2.2.2.2.2.2.2.2.2.2.2.2.2.2.2.2.1.Q4 a.2.2.2.2.2.2.2.2.2.2.2.2.2.2.2.2.2.2.2.2.2.1 a.2.2.2.2.2.2.2.2.2.2.2.2.2.2.2.2.2.2.2.2.2.2.1 a.2.2.2.2.2.2.2.2.2.2.2.2.2.2.2.2.2.2.2.2.2.2.2.1.Q3 a.2.2.2.2.2.2.2.2.2.2.2.2.2.2.2.2.2.2.2.2.2.2.2.1.Q8 a.2.2.2.2.2.2.2.2.2.2.2.2.2.2.2.2.2.2.2.2.2.2.2.1.Q2 a.2.2.2.2.2.2.2.2.2.2.2.2.2.2.2.2.2.2.2.2.2.2.2.1.Qa a.2.2.2.2.2.2.2.2.2.2.2.2.2.2.2.2.2.2.2.2.2.2.2.1.Q5 a.2.2.2.2.2.2.2.2.2.2.2.2.2.2.2.2.2.2.2.2.2.2.2.1.Q9 a.2.2.2.2.2.2.2.2.2.2.2.2.2.2.2.2.2.2.2.2.2.2.2.1.Q1 a.2.2.2.2.2.2.2.2.2.2.2.2.2.2.2.2.2.2.2.2.2.2.2.1.Q6 a.2.2.2.2.2.2.2.2.2.2.2.2.2.2.2.2.2.2.2.2.2.2.2.1.Q4 a.2.2.2.2.2.2.2.2.2.2.2.2.2.2.2.2.2.2.2.2.2.2.2.2.1 a.2.2.2.2.2.2.2.2.2.2.2.2.2.2.2.2.2.2.2.2.2.2.2.2.2.1 a.2.2.2.2.2.2.2.2.2.2.2.2.2.2.2.2.2.2.2.2.2.2.2.2.2.2 b.1 b.2.1 b.2.2.1 b.2.2.2.1 b.2.2.2.2.1.Q3 b.2.2.2.2.1.Q8 b.2.2.2.2.1.Q2 b.2.2.2.2.1.Qa b.2.2.2.2.1.Q5 b.2.2.2.2.1.Q9 b.2.2.2.2.1.Q1 b.2.2.2.2.1.Q6 b.2.2.2.2.1.Q4 b.2.2.2.2.2.1 b.2.2.2.2.2.2.1 b.2.2.2.2.2.2.2.1 b.2.2.2.2.2.2.2.2.1 b.2.2.2.2.2.2.2.2.2.1 b.2.2.2.2.2.2.2.2.2.2.1 b.2.2.2.2.2.2.2.2.2.2.2.1 b.2.2.2.2.2.2.2.2.2.2.2.2.1 b.2.2.2.2.2.2.2.2.2.2.2.2.2.1 b.2.2.2.2.2.2.2.2.2.2.2.2.2.2.1 b.2.2.2.2.2.2.2.2.2.2.2.2.2.2.2.1 b.2.2.2.2.2.2.2.2.2.2.2.2.2.2.2.2.1 b.2.2.2.2.2.2.2.2.2.2.2.2.2.2.2.2.2.1 b.2.2.2.2.2.2.2.2.2.2.2.2.2.2.2.2.2.2.1 b.2.2.2.2.2.2.2.2.2.2.2.2.2.2.2.2.2.2.2.1 b.2.2.2.2.2.2.2.2.2.2.2.2.2.2.2.2.2.2.2.2.1.Q3 b.2.2.2.2.2.2.2.2.2.2.2.2.2.2.2.2.2.2.2.2.1.Q8 b.2.2.2.2.2.2.2.2.2.2.2.2.2.2.2.2.2.2.2.2.1.Q2 b.2.2.2.2.2.2.2.2.2.2.2.2.2.2.2.2.2.2.2.2.1.Qa b.2.2.2.2.2.2.2.2.2.2.2.2.2.2.2.2.2.2.2.2.1.Q5 b.2.2.2.2.2.2.2.2.2.2.2.2.2.2.2.2.2.2.2.2.1.Q9 b.2.2.2.2.2.2.2.2.2.2.2.2.2.2.2.2.2.2.2.2.1.Q1 b.2.2.2.2.2.2.2.2.2.2.2.2.2.2.2.2.2.2.2.2.1.Q6 b.2.2.2.2.2.2.2.2.2.2.2.2.2.2.2.2.2.2.2.2.1.Q4 b.2.2.2.2.2.2.2.2.2.2.2.2.2.2.2.2.2.2.2.2.2.1 b.2.2.2.2.2.2.2.2.2.2.2.2.2.2.2.2.2.2.2.2.2.2.1 b.2.2.2.2.2.2.2.2.2.2.2.2.2.2.2.2.2.2.2.2.2.2.2.1.Q3 b.2.2.2.2.2.2.2.2.2.2.2.2.2.2.2.2.2.2.2.2.2.2.2.1.Q8 b.2.2.2.2.2.2.2.2.2.2.2.2.2.2.2.2.2.2.2.2.2.2.2.1.Q2 b.2.2.2.2.2.2.2.2.2.2.2.2.2.2.2.2.2.2.2.2.2.2.2.1.Qa b.2.2.2.2.2.2.2.2.2.2.2.2.2.2.2.2.2.2.2.2.2.2.2.1.Q5 b.2.2.2.2.2.2.2.2.2.2.2.2.2.2.2.2.2.2.2.2.2.2.2.1.Q9 b.2.2.2.2.2.2.2.2.2.2.2.2.2.2.2.2.2.2.2.2.2.2.2.1.Q1 b.2.2.2.2.2.2.2.2.2.2.2.2.2.2.2.2.2.2.2.2.2.2.2.1.Q6 b.2.2.2.2.2.2.2.2.2.2.2.2.2.2.2.2.2.2.2.2.2.2.2.1.Q4 b.2.2.2.2.2.2.2.2.2.2.2.2.2.2.2.2.2.2.2.2.2.2.2.2.1 b.2.2.2.2.2.2.2.2.2.2.2.2.2.2.2.2.2.2.2.2.2.2.2.2.2.1 b.2.2.2.2.2.2.2.2.2.2.2.2.2.2.2.2.2.2.2.2.2.2.2.2.2.2 = some (eqB a b) := by
  have e1 := QmP (opDs a) (opDs b) (Qr2 ha)
  have e2 := Q8O (Qe3 a) (Qe3 b) (Qlw ha)
  have e3 := Qm4 (QfC a) (QfC b) ha.2.2.2.2.2.2.2.2.2.2.2.2.2.2.2.2.2.2.2.2.1 (Qn ha.2.2.2.2.2.2.2.2.2.2.2.2.2.2.2.2.2.2.2.2.2.1.2.1 (by omega))
  have e4 := Qmb (Qeb a) (Qeb b) (Qpj ha)
  have e5 := Q5H a.2.2.2.2.2.2.2.2.2.2.2.1 b.2.2.2.2.2.2.2.2.2.2.2.1 (Qn ha.2.2.2.2.2.2.2.2.2.2.2.1.2.1 (by omega))
  unfold opDs at e1
  unfold Qe3 at e2
  unfold QfC at e3
  unfold Qeb at e4
  dsimp only at e1 e2 e3 e4
  rw [QjF, e1, e2, e3, e4, e5]
  simp only [Q0, Qu, Q1Q, Qa7, Q24, Q27]
  simp only [QV]
  congr 1
  rw [Bool.eq_iff_iff]
  simp only [Bool.and_eq_true]
  constructor <;> (intro h; simp only [h, and_self])
/-! within -/
theorem Q02 (n lo hi : Int) : Q0t n lo hi = some (inr n lo hi) := by rw [QaX, Qo0]
theorem QZ (n lo hi : Int) : Q0o n lo hi = some (inr n lo hi) := by rw [Qjq, Qo0]
/-! nmL -/
/-! names -/
def letr (c : Int) : Bool := (decide (65 ≤ c) && decide (c ≤ 90)) || (decide (97 ≤ c) && decide (c ≤ 122))
def nmC (c : Int) : Bool := letr c || (decide (48 ≤ c) && decide (c ≤ 57)) || (c == 95)
def nmAt (s : ByteArray) (i : Nat) : Bool := if i = 0 then letr ((Ve.ofB s).getD i 0) else nmC ((Ve.ofB s).getD i 0)
def isNm (s : ByteArray) : Bool := (decide (1 ≤ s.size) && decide (s.size ≤ 12)) && (List.range s.size).all (nmAt s)
theorem Qma {s : ByteArray} {i : Nat} (h : i < s.size) : bidx s (i : Int) = some ((Ve.ofB s).getD i 0) := by
  rw [Qmy, Q4w, List.getD_eq_getElem?_getD, List.getElem?_eq_getElem (by rw [ofB_len]; exact h)]; rfl
theorem Qc6 (c : Int) : Q7z c = some (letr c) := by
  rw [QfK]
  unfold letr
  by_cases a : 65 ≤ c <;> by_cases b : c ≤ 90 <;> by_cases d : 97 ≤ c <;> by_cases e : c ≤ 122 <;> simp [a, b, d, e, sif] <;> omega
theorem Q2j (s : ByteArray) : Q3P s = some (isNm s) := by
  rw [QiR]
  unfold isNm
  by_cases h0 : s.size = 0
  · rw [show (((s.size : Int) == 0)) = true by rw [beq_iff_eq]; omega, Qf, decide_eq_false (show ¬ 1 ≤ s.size by omega)]; rfl
  · rw [show (((s.size : Int) == 0)) = false by rw [beq_eq_false_iff_ne]; omega, Qb, decide_eq_true (show 1 ≤ s.size by omega)]
    by_cases h1 : (s.size : Int) > 12
    · rw [Qj h1, decide_eq_false (show ¬ s.size ≤ 12 by omega)]; rfl
    · rw [Qi h1, decide_eq_true (show s.size ≤ 12 by omega)]
      have k := Q0s (List.range s.size) (nmAt s) (fun i => match i with | 0 => sif (letr ((Ve.ofB s).getD 0 0)) (Q0m s 1) (some false) | i + 1 => Q0m s ((i + 1 : Nat) : Int)) false (fun i x hx hi => by
        rw [List.length_range] at hi
        rw [List.getElem?_range hi, Option.some.injEq] at hx
        subst hx
        unfold nmAt
        match i, hi with
        | 0, _ => rfl
        | i + 1, hi =>
          show Q0m s ((i + 1 : Nat) : Int) = sif (if i + 1 = 0 then _ else _) (Q0m s ((i + 1 + 1 : Nat) : Int)) _
          rw [if_neg (by omega), Qb6, Qj (by omega), Qma hi, Q0, Qc6, Q0, Q0, Q0, Qh (by omega)]
          unfold nmC
          generalize (Ve.ofB s).getD (i + 1) 0 = c
          cases letr c
          · simp only [bne, ge_iff_le, Q0]
            generalize (c == 95) = q, decide (48 ≤ c) = x1, decide (c ≤ 57) = x2
            cases q <;> cases x1 <;> cases x2 <;> rfl
          · rfl)
      have e0 : (match (0 : Nat) with | 0 => sif (letr ((Ve.ofB s).getD 0 0)) (Q0m s 1) (some false) | i + 1 => Q0m s ((i + 1 : Nat) : Int)) = sif (letr ((Ve.ofB s).getD 0 0)) (Q0m s 1) (some false) := rfl
      rw [show (0 : Int) = ((0 : Nat) : Int) from rfl, Qma (by omega), Q0, Qc6, Q0, Q1Q]
      refine k.trans ?_
      rw [List.length_range]
      have hn : s.size = (s.size - 1) + 1 := by omega
      rw [hn]
      show sif _ (Q0m s ((s.size - 1 + 1 : Nat) : Int)) _ = _
      rw [← hn, Qb6, Qi (by omega), Q52]
      cases (List.range s.size).all (nmAt s) <;> rfl
theorem Q5I (s : ByteArray) (h : s.size ≤ 140737488351232) : Q55 s = some (isNm s) := by
  rw [Qjt]
  have k := Q0s (List.range s.size) (nmAt s) (fun i => Q1J s (s.size : Int) (i : Int)) false (fun i x hx hi => by
    rw [List.length_range] at hi
    rw [List.getElem?_range hi, Option.some.injEq] at hx
    subst hx
    show Q1J s (s.size : Int) (i : Int) = _
    rw [Qbd, Qj (by omega), Qma hi, Q0]
    unfold nmAt nmC letr
    generalize (Ve.ofB s).getD i 0 = c
    simp only [QfO, Qh (show i < 9223372036854775807 by omega)]
    by_cases hz : i = 0
    · subst hz
      by_cases a : 65 ≤ c <;> by_cases b : c ≤ 90 <;> by_cases d : 97 ≤ c <;> by_cases e : c ≤ 122 <;> simp [a, b, d, e, sif] <;> omega
    · have hz' : ((i : Int) == 0) = false := by rw [beq_eq_false_iff_ne]; omega
      rw [if_neg hz]
      simp only [hz', Qb, bne]
      rw [show decide (48 ≤ c) = !decide (c < 48) by rw [← decide_not, decide_eq_decide]; omega, show decide (c ≤ 57) = !decide (c > 57) by rw [← decide_not, decide_eq_decide]; omega]
      by_cases f : c < 48 <;> by_cases g : c > 57 <;> by_cases a : 65 ≤ c <;> by_cases b : c ≤ 90 <;> by_cases d : 97 ≤ c <;> by_cases e : c ≤ 122 <;> (first | (exfalso; omega) | (generalize (c == 95) = q; cases q <;> simp [a, b, d, e, f, g, sif])))
  refine k.trans ?_
  show sif _ (Q1J s (s.size : Int) ((List.range s.size).length : Nat)) _ = _
  rw [List.length_range, Qbd, Qi (by omega), Qu]
  unfold isNm
  rw [Qu, Bool.and_comm]
  congr 2
  rw [show decide ((s.size : Int) ≥ 1) = decide (1 ≤ s.size) by rw [decide_eq_decide]; omega, show decide ((s.size : Int) ≤ 12) = decide (s.size ≤ 12) by rw [decide_eq_decide]; omega]
/-! different names -/
/-! typeA -/
/-! membership -/
theorem Qey (l : List Int) (x : Int) (hl : l.length ≤ 140737488351232) : Qan l x = some (l.any fun y => y == x) := by
  rw [Qju]
  have k := Q0s l (fun y => !(y == x)) (fun i => Q2r l x (i : Int)) true (fun i y hy hi => by
    show Q2r l x (i : Int) = _
    rw [Q7J, Qj (by omega), Qg hy, Q0, Q1Q, Qh (by omega)])
  refine k.trans ?_
  show sif _ (Q2r l x (l.length : Int)) _ = _
  rw [Q7J, Qi (by omega), Q52]
  congr 1
  induction l with
  | nil => rfl
  | cons y r ih =>
    rw [List.all_cons, List.any_cons]
    have := ih (by rw [List.length_cons] at hl; omega)
    cases y == x
    · simpa using this (Q0s r (fun y => !(y == x)) (fun i => Q2r r x (i : Int)) true (fun i y hy hi => by
        show Q2r r x (i : Int) = _
        rw [Q7J, Qj (by omega), Qg hy, Q0, Q1Q, Qh (by rw [List.length_cons] at hl; omega)]))
    · rfl
theorem Qdf (l : List Int) (x : Int) (hl : l.length ≤ 140737488351232) : Q1P l x = some (l.any fun y => x == y) := by
  rw [Q8L, Qa4]
  refine Q5V (Q4M l (fun y => x == y) (fun i => Q1O l x (l.length : Int) i) (by rw [Q4o, Qi (by omega)]) (fun i y hy hi => ?_))
  rw [Q4o, Qj (by omega), Qg hy, Q0, Qh (by omega)]
theorem QjL (l : List ByteArray) (x : ByteArray) (hl : l.length ≤ 140737488351232) : Q2D l x = some (l.any fun y => seq x y) := by
  rw [Q7W, Q9i]
  refine Q5V (Q4M l (fun y => seq x y) (fun i => Q1q l x (l.length : Int) i) (by rw [Q3S, Qi (by omega)]) (fun i y hy hi => ?_))
  rw [Q3S, Qj (by omega), Qg hy, Q0, Qh (by omega)]
/-! names -/
def dfAt (N : List ByteArray) (i : Nat) : Bool := isNm (N.getD i (bs [])) && !((N.take i).any fun y => seq (N.getD i (bs [])) y)
def dfN (N : List ByteArray) : Bool := (List.range N.length).all (dfAt N)
theorem strD {N : List ByteArray} {i : Nat} (h : i < N.length) : N[i]? = some (N.getD i (bs [])) := by
  rw [List.getD_eq_getElem?_getD, List.getElem?_eq_getElem h]; rfl
theorem Qdl (N : List ByteArray) (h : N.length ≤ 140737488351232) (hs : ∀ x ∈ N, x.size ≤ 140737488351232) : Q4m N = some (dfN N) := by
  rw [QcV]
  have k := Q0s (List.range N.length) (dfAt N) (fun i => Q1h N N (N.length : Int) (i : Int)) false (fun i x hx hi => by
    rw [List.length_range] at hi
    rw [List.getElem?_range hi, Option.some.injEq] at hx
    subst hx
    show Q1h N N (N.length : Int) (i : Int) = _
    have hm : N.getD i (bs []) ∈ N := List.mem_of_getElem? (strD hi)
    rw [Q6D, Qj (by omega), Q4w, strD hi, Q0, Q5I _ (hs _ hm), Q0, Qe (Q0n (by omega) (by omega)), Int.toNat_natCast, List.drop_zero, QjL _ _ (by rw [List.length_take]; omega), Q0, Qh (by omega)]
    unfold dfAt
    cases isNm (N.getD i (bs [])) <;> cases (N.take i).any (fun y => seq (N.getD i (bs [])) y) <;> rfl)
  refine k.trans ?_
  show sif _ (Q1h N N (N.length : Int) ((List.range N.length).length : Nat)) _ = _
  rw [List.length_range, Q6D, Qi (by omega), Q52]
  unfold dfN
  cases (List.range N.length).all (dfAt N) <;> rfl
/-! typeB -/
/-! integers -/
def iOk (s : Int) (g b : Bool) : Bool := ([1, 2, 4, 8] : List Int).any (fun y => y == s) && ((g || decide (s < 8)) && !(b && (s == 1)))
def lz {α : Type} (l : List α) : Bool := (l.length : Int) == 0
def Q3h (N : List ByteArray) (M : List Int) (E : List (ByteArray × Int × Q7)) (B : List Q7) (c : Int) : Bool := lz N && (lz M && (lz E && (lz B && (c == 0))))
theorem Qjl {s : Int} (h : (([1, 2, 4, 8] : List Int).any fun y => y == s) = true) : s = 1 ∨ s = 2 ∨ s = 4 ∨ s = 8 := by
  simp only [List.any_cons, List.any_nil, Bool.or_false, Bool.or_eq_true, beq_iff_eq] at h
  omega
theorem Qeo (k s : Int) (g b : Bool) (N : List ByteArray) (M : List Int) (E : List (ByteArray × Int × Q7)) (B : List Q7) (c : Int) : Q6e k s g b N M E B c = some (iOk s g b && Q3h N M E B c) := by
  rw [QiW, Qey _ _ (by simp), Q0]
  unfold iOk Q3h lz
  generalize ((N.length : Int) == 0) = n1, ((M.length : Int) == 0) = n2, ((E.length : Int) == 0) = n3, ((B.length : Int) == 0) = n4, (c == 0) = n5
  cases h : (([1, 2, 4, 8] : List Int).any fun y => y == s) with
  | false => rfl
  | true =>
    rcases Qjl h with rfl | rfl | rfl | rfl <;> cases g <;> cases b <;> cases n1 <;> cases n2 <;> cases n3 <;> cases n4 <;> rfl
theorem Qmm (l : List Int) (x : Int) : (l.any fun y => x == y) = l.any fun y => y == x := by
  congr 1; funext y; rw [Bool.eq_iff_iff, beq_iff_eq, beq_iff_eq]; exact eq_comm
theorem Qii (k s : Int) (g b : Bool) (N : List ByteArray) (M : List Int) (E : List (ByteArray × Int × Q7)) (B : List Q7) (c : Int) : Q9o k s g b N M E B c = some (iOk s g b) := by
  rw [Qfk, Qdf _ _ (by simp), Qmm, Q0]
  unfold iOk
  cases h : (([1, 2, 4, 8] : List Int).any fun y => y == s) with
  | false => rfl
  | true => rcases Qjl h with rfl | rfl | rfl | rfl <;> cases g <;> cases b <;> rfl
def rngM (s : Int) (g : Bool) : Int × Int :=
  if g = true then (if s = 1 then (-128, 127) else if s = 2 then (-32768, 32767) else if s = 4 then (-2147483648, 2147483647) else (-9223372036854775808, 9223372036854775807))
  else (if s = 1 then (0, 255) else if s = 2 then (0, 65535) else (0, 4294967295))
theorem Qfc {s : Int} {g b : Bool} (h : iOk s g b = true) : (s = 1 ∨ s = 2 ∨ s = 4 ∨ s = 8) ∧ (g = true ∨ s < 8) := by
  unfold iOk at h
  simp only [Bool.and_eq_true, Bool.or_eq_true, decide_eq_true_eq] at h
  exact ⟨Qjl h.1, h.2.1⟩
theorem Qio (k s : Int) (g b : Bool) (N : List ByteArray) (M : List Int) (E : List (ByteArray × Int × Q7)) (B : List Q7) (c : Int) (h : iOk s g b = true) : Q68 k s g b N M E B c = some (rngM s g) := by
  obtain ⟨h1, h2⟩ := Qfc h
  rw [QgK]
  rcases h1 with rfl | rfl | rfl | rfl <;> cases g <;> first | rfl | (exfalso; simp at h2)
theorem Qht (k s : Int) (g b : Bool) (N : List ByteArray) (M : List Int) (E : List (ByteArray × Int × Q7)) (B : List Q7) (c : Int) (h : iOk s g b = true) : Q4S k s g b N M E B c = some (rngM s g) := by
  obtain ⟨h1, h2⟩ := Qfc h
  rw [Qda]
  rcases h1 with rfl | rfl | rfl | rfl <;> cases g <;> first | rfl | (exfalso; simp at h2)
theorem Q6p (k s : Int) (g b : Bool) (N : List ByteArray) (M : List Int) (E : List (ByteArray × Int × Q7)) (B : List Q7) (c : Int) : Q2S k s g b N M E B c = some (!g && !b) := by
  rw [QgZ]; cases g <;> rfl
/-! enumerations -/
def Qcq (lo hi : Int) (M : List Int) (i : Nat) : Bool := inr (M.getD i 0) lo hi && (decide (i = 0) || decide (M.getD (i - 1) 0 < M.getD i 0))
theorem intD {M : List Int} {i : Nat} (h : i < M.length) : M[i]? = some (M.getD i 0) := by
  rw [List.getD_eq_getElem?_getD, List.getElem?_eq_getElem h]; rfl
theorem Qqb {α : Type} (l : List α) (p q : α → Bool) : l.all (fun x => p x && q x) = (l.all p && l.all q) := by
  induction l with
  | nil => rfl
  | cons x l ih => rw [List.all_cons, List.all_cons, List.all_cons, ih]; cases p x <;> cases q x <;> cases l.all p <;> rfl
theorem QlE (a b : ByteArray) : seq a b = seq b a := by
  rw [Q27, Q27, Bool.eq_iff_iff, Q37, Q37]; exact eq_comm
theorem Q6h {α : Type} (l : List α) (p : α → Bool) : (!l.any p) = l.all fun x => !p x := by
  induction l with
  | nil => rfl
  | cons x l ih => rw [List.any_cons, List.all_cons, ← ih]; cases p x <;> rfl
theorem QjH (lo hi : Int) (k s : Int) (g b : Bool) (N : List ByteArray) (M : List Int) (E : List (ByteArray × Int × Q7)) (B : List Q7) (c : Int) (hn : N.length = M.length) (hl : N.length ≤ 140737488351232) : Q1t lo hi 0 k s g b N M E B c = some ((List.range N.length).all (Qcq lo hi M) && dfN N) := by
  have k0 := Q0s (List.range N.length) (fun i => Qcq lo hi M i && dfAt N i) (fun i => Q1t lo hi (i : Int) k s g b N M E B c) false (fun i x hx hi' => by
    rw [List.length_range] at hi'
    rw [List.getElem?_range hi', Option.some.injEq] at hx
    subst hx
    have inner : Q1G lo hi (i : Int) 0 k s g b N M E B c = sif (!((N.take i).any fun y => seq (N.getD i (bs [])) y)) (Q1t lo hi ((i + 1 : Nat) : Int) k s g b N M E B c) (some false) := by
      have k1 := Q0s (N.take i) (fun y => !seq (N.getD i (bs [])) y) (fun j => Q1G lo hi (i : Int) (j : Int) k s g b N M E B c) false (fun j y hy hj => by
        rw [List.length_take] at hj
        rw [List.getElem?_take, if_pos (by omega)] at hy
        show Q1G lo hi (i : Int) (j : Int) k s g b N M E B c = _
        rw [Q9y, Qj (by omega), Qg hy, Q0, Q4w, strD hi', Q0, Q1Q, Qh (by omega), QlE])
      refine k1.trans ?_
      rw [List.length_take, Nat.min_eq_left (by omega), ← Q6h]
      show sif _ (Q1G lo hi (i : Int) (i : Int) k s g b N M E B c) _ = _
      rw [Q9y lo hi (i : Int) (i : Int), Qi (by omega), Qh (by omega)]
    show Q1t lo hi (i : Int) k s g b N M E B c = _
    rw [QaP, Qj (by omega), Q4w, strD hi', Q0, Q2j, Q0, Q4w, intD (by omega), Q0, Q02, Q0, inner]
    unfold dfAt Qcq
    generalize ((N.take i).any fun y => seq (N.getD i (bs [])) y) = q
    by_cases hz : i = 0
    · rw [Qi (by omega), decide_eq_true hz]
      cases isNm (N.getD i (bs [])) <;> cases inr (M.getD i 0) lo hi <;> cases q <;> rfl
    · rw [Qj (by omega), Qq (by omega) (by omega), show (i : Int) - 1 = ((i - 1 : Nat) : Int) by omega, Q4w, intD (by omega), Q0, Q0, decide_eq_false hz]
      by_cases hc : M.getD (i - 1) 0 ≥ M.getD i 0
      · rw [Qj hc, decide_eq_false (by omega)]
        cases isNm (N.getD i (bs [])) <;> cases inr (M.getD i 0) lo hi <;> cases q <;> rfl
      · rw [Qi hc, decide_eq_true (by omega)]
        cases isNm (N.getD i (bs [])) <;> cases inr (M.getD i 0) lo hi <;> cases q <;> rfl)
  refine k0.trans ?_
  show sif _ (Q1t lo hi ((List.range N.length).length : Nat) k s g b N M E B c) _ = _
  rw [List.length_range, QaP, Qi (by omega), Q52, Qqb]
  unfold dfN
  cases (List.range N.length).all (Qcq lo hi M) <;> cases (List.range N.length).all (dfAt N) <;> rfl
theorem QjA (lo hi : Int) (k s : Int) (g b : Bool) (N : List ByteArray) (M : List Int) (E : List (ByteArray × Int × Q7)) (B : List Q7) (c : Int) (hl : M.length ≤ 140737488351232) (hN : N.length ≤ 140737488351232) (hs : ∀ x ∈ N, x.size ≤ 140737488351232) : Q0U lo hi M (M.length : Int) 0 k s g b N M E B c = some ((List.range M.length).all (Qcq lo hi M) && (inr (M.length : Int) 1 6 && (((N.length : Int) == (M.length : Int)) && dfN N))) := by
  have k0 := Q0s (List.range M.length) (Qcq lo hi M) (fun i => Q0U lo hi M (M.length : Int) (i : Int) k s g b N M E B c) false (fun i x hx hi' => by
    rw [List.length_range] at hi'
    rw [List.getElem?_range hi', Option.some.injEq] at hx
    subst hx
    show Q0U lo hi M (M.length : Int) (i : Int) k s g b N M E B c = _
    rw [Q7T, Qj (by omega), Q4w, intD hi', Q0, QZ, Q0, Qh (by omega)]
    unfold Qcq
    by_cases hz : i = 0
    · rw [Qi (by omega), decide_eq_true hz]
      cases inr (M.getD i 0) lo hi <;> rfl
    · rw [Qj (by omega), Qq (by omega) (by omega), show (i : Int) - 1 = ((i - 1 : Nat) : Int) by omega, Q4w, intD (by omega), Q0, decide_eq_false hz]
      by_cases hc : M.getD i 0 ≤ M.getD (i - 1) 0
      · rw [Qj hc, decide_eq_false (by omega)]
        cases inr (M.getD i 0) lo hi <;> rfl
      · rw [Qi hc, decide_eq_true (by omega)]
        cases inr (M.getD i 0) lo hi <;> rfl)
  refine k0.trans ?_
  show sif _ (Q0U lo hi M (M.length : Int) ((List.range M.length).length : Nat) k s g b N M E B c) _ = _
  rw [List.length_range, Q7T, Qi (by omega), QZ, Q0, Qdl N hN hs, Q0, Qu, Qu, Qu]
/-! typeC -/
/-! sizes, validity -/
def szT : Q7 → Int
  | .mk k s _ _ _ _ _ B c => if k = 3 then (match B with | [] => 0 | x :: _ => x.Q8) else if k = 5 then (match B with | [] => 0 | x :: _ => c * szT x) else s
theorem QdJ (t : Q7) : szT t = if t.Q3 = 3 then (match t.Q6 with | [] => 0 | x :: _ => x.Q8) else if t.Q3 = 5 then (match t.Q6 with | [] => 0 | x :: _ => t.Q4 * szT x) else t.Q8 := by
  cases t with
  | mk k s g b N M E B c => rw [szT.eq_def]; rfl
def enM (N : List ByteArray) (M : List Int) (x : Q7) : Bool :=
  ((x.Q3 == 1) && (iOk x.Q8 x.Q2 x.Qa && Q3h x.Q5 x.Q9 x.Q1 x.Q6 x.Q4)) && ((List.range M.length).all (Qcq (rngM x.Q8 x.Q2).1 (rngM x.Q8 x.Q2).2 M) && (inr (M.length : Int) 1 6 && (((N.length : Int) == (M.length : Int)) && dfN N)))
def enB (N : List ByteArray) (M : List Int) : List Q7 → Bool
  | [x] => enM N M x
  | _ => false
def arB (v : Q7 → Bool) (c : Int) : List Q7 → Bool
  | [x] => v x && decide (c * szT x ≤ 24)
  | _ => false
theorem QrL {N : List ByteArray} {M : List Int} {B : List Q7} (h : enB N M B = true) : ∃ x, B = [x] ∧ enM N M x = true := by
  match B, h with
  | [x], h => exact ⟨x, rfl, h⟩
theorem Qmx {v : Q7 → Bool} {c : Int} {B : List Q7} (h : arB v c B = true) : ∃ x, B = [x] ∧ v x = true ∧ c * szT x ≤ 24 := by
  match B, h with
  | [x], h =>
    have h : (v x && decide (c * szT x ≤ 24)) = true := h
    simp only [Bool.and_eq_true, decide_eq_true_eq] at h
    exact ⟨x, rfl, h⟩
def cpM (v : Q7 → Bool) : Int → List (ByteArray × Int × Q7) → Int → Bool
  | e, [], s => decide (e ≤ s)
  | e, m :: r, s => v m.2.2 && (!decide (m.2.1 < e) && (!decide (m.2.1 > 24) && cpM v (m.2.1 + szT m.2.2) r s))
def vT : Nat → Q7 → Bool
  | 0, _ => false
  | d + 1, t =>
    if t.Q3 = 1 then iOk t.Q8 t.Q2 t.Qa && Q3h t.Q5 t.Q9 t.Q1 t.Q6 t.Q4
    else if t.Q3 = 2 then (inr t.Q8 1 16 && (!t.Q2 && !t.Qa)) && Q3h t.Q5 t.Q9 t.Q1 t.Q6 t.Q4
    else if t.Q3 = 3 then ((t.Q8 == 0) && (!t.Q2 && !t.Qa)) && ((lz t.Q1 && (t.Q4 == 0)) && enB t.Q5 t.Q9 t.Q6)
    else if t.Q3 = 4 then ((inr t.Q8 1 24 && (!t.Q2 && !t.Qa)) && ((lz t.Q5 && lz t.Q9) && (lz t.Q6 && (t.Q4 == 0)))) && (inr (t.Q1.length : Int) 1 4 && (cpM (vT d) 0 t.Q1 t.Q8 && dfN (t.Q1.map Prod.fst)))
    else if t.Q3 = 5 then ((t.Q8 == 0) && (!t.Q2 && !t.Qa)) && (((lz t.Q5 && lz t.Q9) && lz t.Q1) && (inr t.Q4 1 4 && arB (vT d) t.Q4 t.Q6))
    else if t.Q3 = 6 then ((t.Q8 == 2) && (!t.Q2 && !t.Qa)) && Q3h t.Q5 t.Q9 t.Q1 t.Q6 t.Q4
    else false
theorem Q42 (d : Nat) (t : Q7) : vT (d + 1) t =
    if t.Q3 = 1 then iOk t.Q8 t.Q2 t.Qa && Q3h t.Q5 t.Q9 t.Q1 t.Q6 t.Q4
    else if t.Q3 = 2 then (inr t.Q8 1 16 && (!t.Q2 && !t.Qa)) && Q3h t.Q5 t.Q9 t.Q1 t.Q6 t.Q4
    else if t.Q3 = 3 then ((t.Q8 == 0) && (!t.Q2 && !t.Qa)) && ((lz t.Q1 && (t.Q4 == 0)) && enB t.Q5 t.Q9 t.Q6)
    else if t.Q3 = 4 then ((inr t.Q8 1 24 && (!t.Q2 && !t.Qa)) && ((lz t.Q5 && lz t.Q9) && (lz t.Q6 && (t.Q4 == 0)))) && (inr (t.Q1.length : Int) 1 4 && (cpM (vT d) 0 t.Q1 t.Q8 && dfN (t.Q1.map Prod.fst)))
    else if t.Q3 = 5 then ((t.Q8 == 0) && (!t.Q2 && !t.Qa)) && (((lz t.Q5 && lz t.Q9) && lz t.Q1) && (inr t.Q4 1 4 && arB (vT d) t.Q4 t.Q6))
    else if t.Q3 = 6 then ((t.Q8 == 2) && (!t.Q2 && !t.Qa)) && Q3h t.Q5 t.Q9 t.Q1 t.Q6 t.Q4
    else false := rfl
/-- a valid type, kind by kind -/
theorem Q5D {d : Nat} {t : Q7} (h : vT (d + 1) t = true) :
    (t.Q3 = 1 ∧ iOk t.Q8 t.Q2 t.Qa = true) ∨ (t.Q3 = 2 ∧ 1 ≤ t.Q8 ∧ t.Q8 ≤ 16) ∨
    (t.Q3 = 3 ∧ ∃ x, t.Q6 = [x] ∧ enM t.Q5 t.Q9 x = true) ∨
    (t.Q3 = 4 ∧ (1 ≤ t.Q8 ∧ t.Q8 ≤ 24) ∧ (1 ≤ t.Q1.length ∧ t.Q1.length ≤ 4) ∧ cpM (vT d) 0 t.Q1 t.Q8 = true) ∨
    (t.Q3 = 5 ∧ (1 ≤ t.Q4 ∧ t.Q4 ≤ 4) ∧ ∃ x, t.Q6 = [x] ∧ vT d x = true ∧ t.Q4 * szT x ≤ 24) ∨ (t.Q3 = 6 ∧ t.Q8 = 2) := by
  rw [Q42] at h
  split at h
  · next c => simp only [Bool.and_eq_true] at h; exact .inl ⟨c, h.1⟩
  split at h
  · next c => simp only [Bool.and_eq_true, Q0j] at h; exact .inr (.inl ⟨c, h.1.1⟩)
  split at h
  · next c =>
    simp only [Bool.and_eq_true] at h
    exact .inr (.inr (.inl ⟨c, QrL h.2.2⟩))
  split at h
  · next c =>
    simp only [Bool.and_eq_true, Q0j] at h
    exact .inr (.inr (.inr (.inl ⟨c, h.1.1.1, by omega, h.2.2.1⟩)))
  split at h
  · next c =>
    simp only [Bool.and_eq_true, Q0j] at h
    exact .inr (.inr (.inr (.inr (.inl ⟨c, h.2.2.1, Qmx h.2.2.2⟩))))
  split at h
  · next c => simp only [Bool.and_eq_true, beq_iff_eq] at h; exact .inr (.inr (.inr (.inr (.inr ⟨c, h.1.1⟩))))
  · cases h
theorem Q9R {N : List ByteArray} {M : List Int} {x : Q7} (h : enM N M x = true) : x.Q3 = 1 ∧ iOk x.Q8 x.Q2 x.Qa = true := by
  unfold enM at h
  simp only [Bool.and_eq_true, beq_iff_eq] at h
  exact ⟨h.1.1, h.1.2.1⟩
theorem QgI {s : Int} {g b : Bool} (h : iOk s g b = true) : 1 ≤ s ∧ s ≤ 8 := by have := (Qfc h).1; omega
theorem Q0Q : ∀ {d : Nat} {t : Q7}, vT d t = true → 1 ≤ szT t ∧ szT t ≤ 24
  | 0, _, h => by cases h
  | d + 1, t, h => by
    rw [QdJ]
    rcases Q5D h with ⟨hk, h1⟩ | ⟨hk, h1⟩ | ⟨hk, x, hx, h1⟩ | ⟨hk, h1, _⟩ | ⟨hk, h1, x, hx, h2, h3⟩ | ⟨hk, h1⟩
    · rw [hk]; have := QgI h1; simp; omega
    · rw [hk]; simp; omega
    · rw [hk, hx]; have := QgI (Q9R h1).2; simp; omega
    · rw [hk]; simp; omega
    · rw [hk, hx]
      have := Q0Q h2
      have h4 : 1 * 1 ≤ t.Q4 * szT x := Int.mul_le_mul h1.1 this.1 (by omega) (by omega)
      simp; omega
    · rw [hk, h1]; simp
theorem Q1T : ∀ {d : Nat} {t : Q7}, vT d t = true → Q0d t.Q3 t.Q8 t.Q2 t.Qa t.Q5 t.Q9 t.Q1 t.Q6 t.Q4 = some (szT t)
  | 0, _, h => by cases h
  | d + 1, t, h => by
    have hz := Q0Q h
    rw [QdJ] at hz ⊢
    rw [Q7L]
    rcases Q5D h with ⟨hk, h1⟩ | ⟨hk, h1⟩ | ⟨hk, x, hx, h1⟩ | ⟨hk, h1, _⟩ | ⟨hk, h1, x, hx, h2, h3⟩ | ⟨hk, h1⟩
    · rw [hk]; rfl
    · rw [hk]; rfl
    · rw [hk, hx]
      show sbind (Q0d x.Q3 x.Q8 x.Q2 x.Qa x.Q5 x.Q9 x.Q1 x.Q6 x.Q4) _ = _
      rw [Q7L, (Q9R h1).1]; rfl
    · rw [hk]; rfl
    · rw [hk, hx] at hz ⊢
      show sbind (Q0d x.Q3 x.Q8 x.Q2 x.Qa x.Q5 x.Q9 x.Q1 x.Q6 x.Q4) _ = _
      rw [Q1T h2, Q0]
      have hz : 1 ≤ t.Q4 * szT x ∧ t.Q4 * szT x ≤ 24 := hz
      rw [Qq (by omega) (by omega)]; rfl
    · rw [hk]; rfl
theorem Q1j : ∀ {d : Nat} {t : Q7}, vT d t = true → Q0D t.Q3 t.Q8 t.Q2 t.Qa t.Q5 t.Q9 t.Q1 t.Q6 t.Q4 = some (szT t)
  | 0, _, h => by cases h
  | d + 1, t, h => by
    have hz := Q0Q h
    rw [QdJ] at hz ⊢
    rw [Qcw]
    rcases Q5D h with ⟨hk, h1⟩ | ⟨hk, h1⟩ | ⟨hk, x, hx, h1⟩ | ⟨hk, h1, _⟩ | ⟨hk, h1, x, hx, h2, h3⟩ | ⟨hk, h1⟩
    · rw [hk]; rfl
    · rw [hk]; rfl
    · rw [hk, hx]; rfl
    · rw [hk]; rfl
    · rw [hk, hx] at hz ⊢
      show sbind (Q0D x.Q3 x.Q8 x.Q2 x.Qa x.Q5 x.Q9 x.Q1 x.Q6 x.Q4) _ = _
      rw [Q1j h2, Q0]
      have hz : 1 ≤ t.Q4 * szT x ∧ t.Q4 * szT x ≤ 24 := hz
      rw [Qq (by omega) (by omega)]; rfl
    · rw [hk]; rfl
/-! kbL -/
theorem kbeq {a b : Int} (h : a = b) : (a == b) = true := by rw [beq_iff_eq]; exact h
theorem kbne {a b : Int} (h : a ≠ b) : (a == b) = false := by rw [beq_eq_false_iff_ne]; exact h
/-! typeD -/
theorem Qbx {α : Type} (l : List α) : eqB l [] = lz l := by
  rw [Bool.eq_iff_iff, Q37]; unfold lz; cases l <;> simp; omega
theorem Q9U (c : Int) : eqB c 0 = (c == 0) := (Q24 c 0).symm
theorem Qfu (g : Bool) : eqB g false = !g := by rw [← Q24]; cases g <;> rfl
theorem Q39 (t : Q7) (hok : Qd t) (s' : Int) (g' b' : Bool) (N' : List ByteArray) (M' : List Int) (E' : List (ByteArray × Int × Q7)) (B' : List Q7) (c' : Int) :
    Q0W t.Q3 t.Q8 t.Q2 t.Qa t.Q5 t.Q9 t.Q1 t.Q6 t.Q4 t.Q3 s' g' b' N' M' E' B' c' = some (eqB t.Q8 s' && (eqB t.Q2 g' && (eqB t.Qa b' && (eqB t.Q5 N' && (eqB t.Q9 M' && (eqB t.Q1 E' && (eqB t.Q6 B' && eqB t.Q4 c'))))))) := by
  refine (Q8d t hok (Q7.mk t.Q3 s' g' b' N' M' E' B' c')).trans ?_
  rw [Qly]
  show some (eqB t.Q3 t.Q3 && _) = _
  rw [Q5E, Bool.true_and]; rfl
theorem QdK (x : Q7) (hok : Qd x) (hk : x.Q3 = 1) (n : Int) (hn : 1 ≤ n) : Q0b x.Q3 x.Q8 x.Q2 x.Qa x.Q5 x.Q9 x.Q1 x.Q6 x.Q4 n = some (iOk x.Q8 x.Q2 x.Qa && Q3h x.Q5 x.Q9 x.Q1 x.Q6 x.Q4) := by
  rw [Q7c, Qi (by omega), Qbb]
  simp only [kbeq hk, Qf, Q0, Q39 x hok, Q5E, Qbx, Q9U, Bool.true_and, Qii]
  show sif (!Q3h x.Q5 x.Q9 x.Q1 x.Q6 x.Q4) _ _ = _
  cases Q3h x.Q5 x.Q9 x.Q1 x.Q6 x.Q4 <;> cases iOk x.Q8 x.Q2 x.Qa <;> rfl
theorem Qhb (k s : Int) (g b : Bool) (N : List ByteArray) (M : List Int) (E : List (ByteArray × Int × Q7)) (B : List Q7) (c : Int) (hB : ∀ x ∈ B, Qd x) (hM : M.length ≤ 140737488351232) (hN : N.length ≤ 140737488351232) (hs : ∀ x ∈ N, x.size ≤ 140737488351232) : Q8g k s g b N M E B c = some (enB N M B) := by
  rw [QeK]
  match B, hB with
  | [], _ => rfl
  | _ :: _ :: _, _ => 
    rw [Qe (by rw [bne_iff_ne]; simp only [List.length_cons]; omega)]; rfl
  | [x], hB =>
    have hx := hB x (by simp)
    rw [Q1K (by rfl)]
    show sif (x.Q3 != 1) _ (sbind (Q0b x.Q3 x.Q8 x.Q2 x.Qa x.Q5 x.Q9 x.Q1 x.Q6 x.Q4 1) _) = _
    show _ = some (enM N M x)
    unfold enM
    by_cases hk : x.Q3 = 1
    · rw [Q1K (by rw [bne_eq_false_iff_eq]; exact hk), QdK x hx hk 1 (by omega), Q0, kbeq hk, Bool.true_and]
      cases hi : (iOk x.Q8 x.Q2 x.Qa && Q3h x.Q5 x.Q9 x.Q1 x.Q6 x.Q4) with
      | false => rfl
      | true =>
        simp only [Bool.and_eq_true] at hi
        rw [Bool.not_true, Qb]
        show sbind (Q4S x.Q3 x.Q8 x.Q2 x.Qa x.Q5 x.Q9 x.Q1 x.Q6 x.Q4) _ = _
        rw [Qht _ _ _ _ _ _ _ _ _ hi.1, Q0, QjA _ _ _ _ _ _ _ _ _ _ _ hM hN hs]; rfl
    · rw [Qe (by rw [bne_iff_ne]; exact hk), kbne hk]; rfl
theorem QrI {n : Nat} (h : n ≤ 100) : room n 16 = true := by
  unfold room
  exact Nat.ble_eq_true_of_le (by omega)
theorem QjB (d : Nat) (ih : ∀ t, Qd t → Q0b t.Q3 t.Q8 t.Q2 t.Qa t.Q5 t.Q9 t.Q1 t.Q6 t.Q4 (d : Int) = some (vT d t)) (k s : Int) (g b : Bool) (N : List ByteArray) (M : List Int) (E : List (ByteArray × Int × Q7)) (B : List Q7) (c : Int) (hE : E.length ≤ 4) (hok : ∀ m ∈ E, Qd m.2.2) (hs : ∀ m ∈ E, m.1.size ≤ 140737488351232) :
    ∀ n (i : Nat) (e : Int), E.length = i + n → 0 ≤ e → e ≤ 1000 → Q2U (d : Int) e E (E.length : Int) (i : Int) k s g b N M E B c ((E.take i).map Prod.fst) = some (cpM (vT d) e (E.drop i) s && dfN (E.map Prod.fst)) := by
  intro n
  induction n with
  | zero =>
    intro i e hi h0 h1
    rw [Q5Z, Qi (by omega), List.take_of_length_le (by omega), List.drop_eq_nil_of_le (by omega), Qdl _ (by rw [List.length_map]; omega) (fun x hx => by
      obtain ⟨m, hm, rfl⟩ := List.mem_map.1 hx
      exact hs m hm), Q0, Qu]
    rfl
  | succ n ihn =>
    intro i e hi h0 h1
    have hlt : i < E.length := by omega
    have hm : E[i] ∈ E := List.getElem_mem hlt
    rw [Q5Z, Qj (by omega), Q4w, List.getElem?_eq_getElem hlt, Q0, ih _ (hok _ hm), Q0, List.drop_eq_getElem_cons hlt]
    show _ = some ((vT d E[i].2.2 && (!decide (E[i].2.1 < e) && (!decide (E[i].2.1 > 24) && cpM (vT d) (E[i].2.1 + szT E[i].2.2) (E.drop (i + 1)) s))) && _)
    cases hv : vT d E[i].2.2 with
    | false => rfl
    | true =>
      have hz := Q0Q hv
      rw [Bool.not_true, Qb]
      by_cases c1 : E[i].2.1 < e
      · rw [Qj c1, decide_eq_true c1]; rfl
      · rw [Qi c1, decide_eq_false c1]
        by_cases c2 : E[i].2.1 > 24
        · rw [Qj c2, decide_eq_true c2]; rfl
        · rw [Qi c2, decide_eq_false c2, Q1T hv, Q0, Qe (QrI (by rw [List.length_map, List.length_take]; omega)), Qq (by omega) (by omega), Qh (by omega)]
          have := ihn (i + 1) (E[i].2.1 + szT E[i].2.2) (by omega) (by omega) (by omega)
          rw [List.take_succ_eq_append_getElem hlt, List.map_append] at this
          exact this
theorem QiN (d : Nat) (ih : ∀ t, Qd t → Q0b t.Q3 t.Q8 t.Q2 t.Qa t.Q5 t.Q9 t.Q1 t.Q6 t.Q4 (d : Int) = some (vT d t)) (k s : Int) (g b : Bool) (N : List ByteArray) (M : List Int) (E : List (ByteArray × Int × Q7)) (B : List Q7) (c : Int) (hok : ∀ m ∈ E, Qd m.2.2) (hs : ∀ m ∈ E, m.1.size ≤ 140737488351232) :
    Q5J k s g b N M E B c (d : Int) = some (inr s 1 24 && (inr (E.length : Int) 1 4 && (cpM (vT d) 0 E s && dfN (E.map Prod.fst)))) := by
  rw [Qcn, QZ, Q0, QZ, Q0]
  cases h1 : inr s 1 24 with
  | false => rfl
  | true =>
    cases h2 : inr (E.length : Int) 1 4 with
    | false => rfl
    | true =>
      have h2' := Q0j.1 h2
      have := QjB d ih k s g b N M E B c (by omega) hok hs E.length 0 0 (by omega) (by omega) (by omega)
      exact this
theorem Q6v : ∀ (d : Nat), d ≤ 3 → ∀ t, Qd t → Q0b t.Q3 t.Q8 t.Q2 t.Qa t.Q5 t.Q9 t.Q1 t.Q6 t.Q4 (d : Int) = some (vT d t)
  | 0, _, t, _ => by rw [Q7c, Qj (by omega)]; rfl
  | d + 1, hd, t, hok => by
    have ih := Q6v d (by omega)
    obtain ⟨l1, l2, l3, l4, k1, k2⟩ := Q8v hok
    have hO := Qd.out hok
    by_cases c1 : t.Q3 = 1
    · rw [QdK t hok c1 _ (by omega), Q42, if_pos c1]
    rw [Q7c, Qi (by omega), Qbb, Q42, if_neg c1, show wi64 (((d + 1 : Nat) : Int) - 1) = (d : Int) by rw [Qq (by omega) (by omega)]; omega]
    simp only [kbne c1, Qb]
    by_cases c2 : t.Q3 = 2
    · rw [if_pos c2]
      simp only [kbeq c2, Qf, Q0, Q39 t hok, Q5E, Qbx, Q9U, Qfu, Bool.true_and, QZ]
      show sif (!(!t.Q2 && (!t.Qa && Q3h t.Q5 t.Q9 t.Q1 t.Q6 t.Q4))) _ _ = _
      cases Q3h t.Q5 t.Q9 t.Q1 t.Q6 t.Q4 <;> cases t.Q2 <;> cases t.Qa <;> cases inr t.Q8 1 16 <;> rfl
    rw [if_neg c2]
    simp only [kbne c2, Qb]
    by_cases c6 : t.Q3 = 6
    · rw [if_neg (by omega), if_neg (by omega), if_neg (by omega), if_pos c6]
      simp only [kbeq c6, kbne (show t.Q3 ≠ 3 by omega), kbne (show t.Q3 ≠ 4 by omega), kbne (show t.Q3 ≠ 5 by omega), Qf, Qb, Q0, Q39 t hok, Q5E, Qbx, Q9U, Qfu, Bool.true_and]
      show sif (!(!t.Q2 && (!t.Qa && Q3h t.Q5 t.Q9 t.Q1 t.Q6 t.Q4))) _ _ = _
      cases Q3h t.Q5 t.Q9 t.Q1 t.Q6 t.Q4 <;> cases t.Q2 <;> cases t.Qa <;> cases t.Q8 == 2 <;> rfl
    simp only [kbne c6, Qb]
    by_cases c3 : t.Q3 = 3
    · rw [if_pos c3]
      simp only [kbeq c3, Qf, Q0, Q39 t hok, Q5E, Qbx, Q9U, Qfu, Bool.true_and, Qhb _ _ _ _ _ _ _ _ _ k2 l2 l1 hO.2.2.2.2.1.2.2]
      generalize (enB t.Q5 t.Q9 t.Q6) = q
      cases t.Q8 == 0 <;> cases t.Q2 <;> cases t.Qa <;> cases lz t.Q1 <;> cases t.Q4 == 0 <;> cases q <;> rfl
    rw [if_neg c3]
    simp only [kbne c3, Qb]
    by_cases c4 : t.Q3 = 4
    · rw [if_pos c4]
      simp only [kbeq c4, Qf, Q0, Q39 t hok, Q5E, Qbx, Q9U, Qfu, Bool.true_and, QiN d ih _ _ _ _ _ _ _ _ _ k1 (fun m hm => (hO.2.2.2.2.2.2.1.2.2 m hm).1)]
      generalize (inr (t.Q1.length : Int) 1 4 && (cpM (vT d) 0 t.Q1 t.Q8 && dfN (t.Q1.map Prod.fst))) = q
      cases inr t.Q8 1 24 <;> cases t.Q2 <;> cases t.Qa <;> cases lz t.Q5 <;> cases lz t.Q9 <;> cases lz t.Q6 <;> cases t.Q4 == 0 <;> cases q <;> rfl
    rw [if_neg c4]
    simp only [kbne c4, Qb]
    by_cases c5 : t.Q3 = 5
    · rw [if_pos c5]
      simp only [kbeq c5, Qf, Q0, Q39 t hok, Q5E, Qbx, Q9U, Qfu, Bool.true_and, QZ]
      have body : sif (inr t.Q4 1 4) (sif ((t.Q6.length : Int) == 1) (sbind (idx t.Q6 0) fun x4 => sbind (Q0b x4.Q3 x4.Q8 x4.Q2 x4.Qa x4.Q5 x4.Q9 x4.Q1 x4.Q6 x4.Q4 (d : Int)) fun r5 => sif r5 (sbind (Q0d t.Q3 t.Q8 t.Q2 t.Qa t.Q5 t.Q9 t.Q1 t.Q6 t.Q4) fun r6 => some (decide (r6 ≤ 24))) (some false)) (some false)) (some false) = some (inr t.Q4 1 4 && arB (vT d) t.Q4 t.Q6) := by
        cases hc : inr t.Q4 1 4 with
        | false => rfl
        | true =>
          have hc := Q0j.1 hc
          match hB : t.Q6 with
          | [] => rfl
          | _ :: _ :: _ => rw [Qf, Q1K (by rw [beq_eq_false_iff_ne]; simp only [List.length_cons]; omega)]; rfl
          | [x] =>
            have hx := k2 x (by rw [hB]; simp)
            show sbind (Q0b x.Q3 x.Q8 x.Q2 x.Qa x.Q5 x.Q9 x.Q1 x.Q6 x.Q4 (d : Int)) _ = _
            show _ = some (vT d x && decide (t.Q4 * szT x ≤ 24))
            rw [ih x hx, Q0]
            cases hv : vT d x with
            | false => rfl
            | true =>
              have hz := Q0Q hv
              have h4 : t.Q4 * szT x ≤ 4 * 24 := Int.mul_le_mul hc.2 hz.2 (by omega) (by omega)
              have h5 : 1 * 1 ≤ t.Q4 * szT x := Int.mul_le_mul hc.1 hz.1 (by omega) (by omega)
              rw [Qf, Q7L, kbne c3, kbeq c5, Qb, Qf]
              show sbind (sbind (Q0d x.Q3 x.Q8 x.Q2 x.Qa x.Q5 x.Q9 x.Q1 x.Q6 x.Q4) _) _ = _
              rw [Q1T hv, Q0, Q0, Qq (by omega) (by omega)]; rfl
      rw [body]
      generalize (inr t.Q4 1 4 && arB (vT d) t.Q4 t.Q6) = q
      cases t.Q8 == 0 <;> cases t.Q2 <;> cases t.Qa <;> cases lz t.Q5 <;> cases lz t.Q9 <;> cases lz t.Q1 <;> cases q <;> rfl
    rw [if_neg c5, if_neg c6]
    simp only [kbne c5, Qb, Q0, Q39 t hok, Qc0]
/-! typeE -/
/-! depths -/
def mxI (a b : Int) : Int := if a > b then a else b
def dpT : Nat → Q7 → Int
  | 0, _ => 1
  | n + 1, t => if t.Q3 = 4 then t.Q1.foldl (fun a m => mxI a (dpT n m.2.2)) 0 + 1 else if t.Q3 = 5 then (match t.Q6 with | [] => 1 | x :: _ => dpT n x + 1) else 1
theorem QnQ {a b l h : Int} (h1 : l ≤ a ∧ a ≤ h) (h2 : l ≤ b ∧ b ≤ h) : l ≤ mxI a b ∧ mxI a b ≤ h := by unfold mxI; split <;> omega
theorem Qmz {α : Type} (f : α → Int) (h : Int) : ∀ (l : List α) (a : Int), (0 ≤ a ∧ a ≤ h) → (∀ x ∈ l, 1 ≤ f x ∧ f x ≤ h) → 0 ≤ l.foldl (fun a m => mxI a (f m)) a ∧ l.foldl (fun a m => mxI a (f m)) a ≤ h
  | [], a, ha, _ => ha
  | x :: l, a, ha, hl => Qmz f h l _ (QnQ ha (by have := hl x (by simp); omega)) (fun y hy => hl y (by simp [hy]))
theorem Qdk : ∀ (n : Nat) (t : Q7), 1 ≤ dpT n t ∧ dpT n t ≤ (n : Int) + 1
  | 0, t => by show (1 : Int) ≤ 1 ∧ (1 : Int) ≤ _; omega
  | n + 1, t => by
    show 1 ≤ (if t.Q3 = 4 then _ else _) ∧ (if t.Q3 = 4 then _ else _) ≤ _
    split
    · have := Qmz (fun m : ByteArray × Int × Q7 => dpT n m.2.2) ((n : Int) + 1) t.Q1 0 (by omega) (fun x _ => Qdk n x.2.2)
      omega
    · split
      · split
        · omega
        · next x r hx => have := Qdk n x; omega
      · omega
theorem Q4v {v : Q7 → Bool} {s : Int} : ∀ {E : List (ByteArray × Int × Q7)} {e : Int}, cpM v e E s = true → ∀ m ∈ E, v m.2.2 = true
  | [], _, _, m, hm => by cases hm
  | x :: r, e, h, m, hm => by
    simp only [cpM, Bool.and_eq_true] at h
    rcases List.mem_cons.1 hm with rfl | hm
    · exact h.1
    · exact Q4v h.2.2.2 m hm
theorem Qj5 {v v' : Q7 → Bool} {s : Int} : ∀ {E : List (ByteArray × Int × Q7)} {e : Int}, cpM v e E s = true → cpM v' e E s = E.all fun m => v' m.2.2
  | [], _, h => h
  | x :: r, e, h => by
    simp only [cpM, Bool.and_eq_true] at h
    rw [cpM, h.2.1, h.2.2.1, Qj5 h.2.2.2, List.all_cons]; rfl
theorem Qq8 {v v' : Q7 → Bool} (hv : ∀ t, v t = true → v' t = true) {s : Int} {E : List (ByteArray × Int × Q7)} {e : Int} (h : cpM v e E s = true) : cpM v' e E s = true := by
  rw [Qj5 h, List.all_eq_true]
  exact fun m hm => hv _ (Q4v h m hm)
theorem QjM : ∀ {d : Nat} {t : Q7}, vT d t = true → vT (d + 1) t = true
  | 0, _, h => by cases h
  | d + 1, t, h => by
    rw [Q42] at h ⊢
    split
    · next c => rw [if_pos c] at h; exact h
    next c1 =>
    rw [if_neg c1] at h
    split
    · next c => rw [if_pos c] at h; exact h
    next c2 =>
    rw [if_neg c2] at h
    split
    · next c => rw [if_pos c] at h; exact h
    next c3 =>
    rw [if_neg c3] at h
    split
    · next c =>
      rw [if_pos c] at h
      simp only [Bool.and_eq_true] at h ⊢
      exact ⟨h.1, h.2.1, Qq8 (fun _ hx => QjM hx) h.2.2.1, h.2.2.2⟩
    next c4 =>
    rw [if_neg c4] at h
    split
    · next c =>
      rw [if_pos c] at h
      simp only [Bool.and_eq_true] at h ⊢
      refine ⟨h.1, h.2.1, h.2.2.1, ?_⟩
      obtain ⟨x, hx, h1, h2⟩ := Qmx h.2.2.2
      rw [hx]
      show (vT (d + 1) x && decide (t.Q4 * szT x ≤ 24)) = true
      rw [QjM h1, decide_eq_true h2]; rfl
    next c5 =>
    rw [if_neg c5] at h
    exact h
theorem QnW {α : Type} (f : α → Int) (d : Int) : ∀ (l : List α) (a : Int), decide (l.foldl (fun a m => mxI a (f m)) a ≤ d) = (decide (a ≤ d) && l.all fun m => decide (f m ≤ d))
  | [], a => by rw [List.all_nil, Bool.and_true]; rfl
  | x :: l, a => by
    rw [List.foldl_cons, QnW f d l, List.all_cons, ← Bool.and_assoc]
    congr 1
    rw [← Bool.decide_and, decide_eq_decide]
    unfold mxI
    split <;> omega
theorem all_congr_mem {α : Type} {l : List α} {p q : α → Bool} (h : ∀ x ∈ l, p x = q x) : l.all p = l.all q := by
  induction l with
  | nil => rfl
  | cons x l ih => rw [List.all_cons, List.all_cons, h x (by simp), ih (fun y hy => h y (by simp [hy]))]
theorem vT_4 {d : Nat} {t : Q7} (h : t.Q3 = 4) : vT (d + 1) t = (((inr t.Q8 1 24 && (!t.Q2 && !t.Qa)) && ((lz t.Q5 && lz t.Q9) && (lz t.Q6 && (t.Q4 == 0)))) && (inr (t.Q1.length : Int) 1 4 && (cpM (vT d) 0 t.Q1 t.Q8 && dfN (t.Q1.map Prod.fst)))) := by
  rw [Q42, if_neg (by omega), if_neg (by omega), if_neg (by omega), if_pos h]
theorem vT_5 {d : Nat} {t : Q7} (h : t.Q3 = 5) : vT (d + 1) t = (((t.Q8 == 0) && (!t.Q2 && !t.Qa)) && (((lz t.Q5 && lz t.Q9) && lz t.Q1) && (inr t.Q4 1 4 && arB (vT d) t.Q4 t.Q6))) := by
  rw [Q42, if_neg (by omega), if_neg (by omega), if_neg (by omega), if_neg (by omega), if_pos h]
theorem vT_o {d n : Nat} {t : Q7} (h4 : t.Q3 ≠ 4) (h5 : t.Q3 ≠ 5) : vT (d + 1) t = vT (n + 1) t := by
  rw [Q42, Q42]
  simp only [if_neg h4, if_neg h5]
theorem Qr5 {n : Nat} {t : Q7} (h : t.Q3 = 4) : dpT (n + 1) t = t.Q1.foldl (fun a m => mxI a (dpT n m.2.2)) 0 + 1 := by
  rw [dpT, if_pos h]
theorem Qr6 {n : Nat} {t x : Q7} (h : t.Q3 = 5) (hx : t.Q6 = [x]) : dpT (n + 1) t = dpT n x + 1 := by
  rw [dpT, if_neg (by omega), if_pos h, hx]
theorem QiC {n : Nat} {t : Q7} (h4 : t.Q3 ≠ 4) (h5 : t.Q3 ≠ 5) : dpT (n + 1) t = 1 := by
  rw [dpT, if_neg h4, if_neg h5]
theorem Qm0 : ∀ (n d : Nat) (t : Q7), d ≤ n → vT n t = true → decide (dpT n t ≤ (d : Int)) = vT d t
  | 0, _, _, _, h => by cases h
  | n + 1, 0, t, _, _ => by
    have := (Qdk (n + 1) t).1
    rw [decide_eq_false (by omega)]; rfl
  | n + 1, d + 1, t, hd, h => by
    have h' := h
    by_cases c4 : t.Q3 = 4
    · rw [vT_4 c4] at h' ⊢
      rw [Qr5 c4]
      simp only [Bool.and_eq_true] at h'
      rw [Qj5 h'.2.2.1, h'.2.1, h'.2.2.2, Bool.and_true, Bool.true_and]
      have e : ((inr t.Q8 1 24 && (!t.Q2 && !t.Qa)) && ((lz t.Q5 && lz t.Q9) && (lz t.Q6 && (t.Q4 == 0)))) = true := by
        simp only [Bool.and_eq_true]; exact h'.1
      rw [e, Bool.true_and]
      have k := QnW (fun m : ByteArray × Int × Q7 => dpT n m.2.2) (d : Int) t.Q1 0
      rw [decide_eq_true (show (0 : Int) ≤ d by omega), Bool.true_and] at k
      rw [← all_congr_mem (fun m hm => Qm0 n d m.2.2 (by omega) (Q4v h'.2.2.1 m hm)), ← k, decide_eq_decide]
      omega
    · by_cases c5 : t.Q3 = 5
      · rw [vT_5 c5] at h' ⊢
        simp only [Bool.and_eq_true] at h'
        obtain ⟨x, hx, h1, h2⟩ := Qmx h'.2.2.2
        have e : ((t.Q8 == 0) && (!t.Q2 && !t.Qa)) = true := by simp only [Bool.and_eq_true]; exact h'.1
        have e2 : ((lz t.Q5 && lz t.Q9) && lz t.Q1) = true := by simp only [Bool.and_eq_true]; exact h'.2.1
        rw [e, e2, h'.2.2.1, hx, Qr6 c5 hx]
        show decide (dpT n x + 1 ≤ ((d + 1 : Nat) : Int)) = (true && (true && (true && (vT d x && decide (t.Q4 * szT x ≤ 24)))))
        rw [decide_eq_true h2, Bool.and_true, Bool.true_and, Bool.true_and, Bool.true_and, ← Qm0 n d x (by omega) h1, decide_eq_decide]
        omega
      · rw [QiC c4 c5, decide_eq_true (by omega), vT_o (n := n) c4 c5]
        exact h'.symm
theorem QkR (a b : Int) : Qd7 a b = some (mxI a b) := by
  rw [QjK, Q52]; unfold mxI; congr 1; simp only [decide_eq_true_eq]
theorem Qis (d : Nat) (hd : d ≤ 10) (ih : ∀ t, vT d t = true → Q3A t.Q3 t.Q8 t.Q2 t.Qa t.Q5 t.Q9 t.Q1 t.Q6 t.Q4 = some (dpT d t)) (k s : Int) (g b : Bool) (N : List ByteArray) (M : List Int) (E : List (ByteArray × Int × Q7)) (B : List Q7) (c : Int) (hE : E.length ≤ 4) (hv : ∀ m ∈ E, vT d m.2.2 = true) :
    ∀ n (i : Nat) (a : Int), E.length = i + n → 0 ≤ a → a ≤ 20 → Q5F a (i : Int) k s g b N M E B c = some ((E.drop i).foldl (fun a m => mxI a (dpT d m.2.2)) a + 1) := by
  intro n
  induction n with
  | zero =>
    intro i a hi h0 h1
    rw [Q9P, Qi (by omega), List.drop_eq_nil_of_le (by omega), Qq (by omega) (by omega)]; rfl
  | succ n ihn =>
    intro i a hi h0 h1
    have hlt : i < E.length := by omega
    have hr := Qdk d E[i].2.2
    have hm := QnQ (l := 0) (h := 20) ⟨h0, h1⟩ (b := dpT d E[i].2.2) (by omega)
    rw [Q9P, Qj (by omega), Q4w, List.getElem?_eq_getElem hlt, Q0, ih _ (hv _ (List.getElem_mem hlt)), Q0, QkR, Q0, Qh (by omega), ihn (i + 1) _ (by omega) hm.1 hm.2, List.drop_eq_getElem_cons hlt, List.foldl_cons]
theorem QcG : ∀ (d : Nat), d ≤ 10 → ∀ t, vT d t = true → Q3A t.Q3 t.Q8 t.Q2 t.Qa t.Q5 t.Q9 t.Q1 t.Q6 t.Q4 = some (dpT d t)
  | 0, _, _, h => by cases h
  | d + 1, hd, t, h => by
    have ih := QcG d (by omega)
    rw [QgJ]
    rcases Q5D h with ⟨hk, h1⟩ | ⟨hk, h1⟩ | ⟨hk, x, hx, h1⟩ | ⟨hk, h1, h2, h3⟩ | ⟨hk, h1, x, hx, h2, h3⟩ | ⟨hk, h1⟩
    · rw [QiC (by omega) (by omega), kbne (show t.Q3 ≠ 4 by omega), kbne (show t.Q3 ≠ 5 by omega)]; rfl
    · rw [QiC (by omega) (by omega), kbne (show t.Q3 ≠ 4 by omega), kbne (show t.Q3 ≠ 5 by omega)]; rfl
    · rw [QiC (by omega) (by omega), kbne (show t.Q3 ≠ 4 by omega), kbne (show t.Q3 ≠ 5 by omega)]; rfl
    · rw [kbeq hk, Qf, Qr5 hk]
      exact Qis d (by omega) ih _ _ _ _ _ _ _ _ _ h2.2 (Q4v h3) t.Q1.length 0 0 (by omega) (by omega) (by omega)
    · have hr := Qdk d x
      rw [kbne (show t.Q3 ≠ 4 by omega), kbeq hk, Qb, Qf, Qr6 hk hx, hx]
      show sbind (Q3A x.Q3 x.Q8 x.Q2 x.Qa x.Q5 x.Q9 x.Q1 x.Q6 x.Q4) _ = _
      rw [ih x h2, Q0, Qq (by omega) (by omega)]
    · rw [QiC (by omega) (by omega), kbne (show t.Q3 ≠ 4 by omega), kbne (show t.Q3 ≠ 5 by omega)]; rfl
/-! typeF -/
theorem Qi6 (k s : Int) (g b : Bool) (N : List ByteArray) (M : List Int) (E : List (ByteArray × Int × Q7)) (B : List Q7) (c : Int) (i : Nat) (hi : i ≤ E.length) (hE : E.length ≤ 4) (nm : ByteArray) (off : Int) (x : Q7) : Q1b (i : Int) 0 k s g b N M E B c nm off x.Q3 x.Q8 x.Q2 x.Qa x.Q5 x.Q9 x.Q1 x.Q6 x.Q4 = sif (!(((E.map Prod.fst).take i).any fun y => seq nm y)) (sbind (Q0D x.Q3 x.Q8 x.Q2 x.Qa x.Q5 x.Q9 x.Q1 x.Q6 x.Q4) fun r1 => Q1p (wi64 (off + r1)) (wi64 ((i : Int) + 1)) k s g b N M E B c) (some false) := by
  have k1 := Q0s (E.take i) (fun y => !seq nm y.1) (fun j => Q1b (i : Int) (j : Int) k s g b N M E B c nm off x.Q3 x.Q8 x.Q2 x.Qa x.Q5 x.Q9 x.Q1 x.Q6 x.Q4) false (fun j y hy hj => by
    rw [List.length_take] at hj
    rw [List.getElem?_take, if_pos (by omega)] at hy
    show Q1b (i : Int) (j : Int) k s g b N M E B c nm off x.Q3 x.Q8 x.Q2 x.Qa x.Q5 x.Q9 x.Q1 x.Q6 x.Q4 = _
    rw [Q7G, Qj (by omega), Qg hy, Q0, Q1Q, Qh (by omega), QlE])
  refine k1.trans ?_
  rw [List.length_take, Nat.min_eq_left hi, ← Q6h, ← List.map_take, List.any_map]
  show sif (!((E.take i).any fun y => seq nm y.1)) (Q1b (i : Int) (i : Int) k s g b N M E B c nm off x.Q3 x.Q8 x.Q2 x.Qa x.Q5 x.Q9 x.Q1 x.Q6 x.Q4) _ = sif (!((E.take i).any fun y => seq nm y.1)) _ _
  rw [Q7G (i : Int) (i : Int), Qi (by omega)]
theorem QqD {E : List (ByteArray × Int × Q7)} {i : Nat} (h : i < E.length) : (E.map Prod.fst).getD i (bs []) = E[i].1 := by
  rw [List.getD_eq_getElem?_getD, List.getElem?_map, List.getElem?_eq_getElem h]; rfl
theorem Qjp (k s : Int) (g b : Bool) (N : List ByteArray) (M : List Int) (E : List (ByteArray × Int × Q7)) (B : List Q7) (c : Int) (ih : ∀ m ∈ E, Q1r m.2.2.Q3 m.2.2.Q8 m.2.2.Q2 m.2.2.Qa m.2.2.Q5 m.2.2.Q9 m.2.2.Q1 m.2.2.Q6 m.2.2.Q4 = some (vT 3 m.2.2)) (hE : E.length ≤ 4) :
    ∀ n (i : Nat) (e : Int), E.length = i + n → 0 ≤ e → e ≤ 1000 → Q1p e (i : Int) k s g b N M E B c = some (cpM (vT 3) e (E.drop i) s && ((List.range E.length).drop i).all (dfAt (E.map Prod.fst))) := by
  intro n
  induction n with
  | zero =>
    intro i e hi h0 h1
    rw [Q7R, Qi (by omega), List.drop_eq_nil_of_le (by omega), List.drop_eq_nil_of_le (by rw [List.length_range]; omega), List.all_nil, Bool.and_true]
    rfl
  | succ n ihn =>
    intro i e hi h0 h1
    have hlt : i < E.length := by omega
    have hm : E[i] ∈ E := List.getElem_mem hlt
    rw [Q7R, Qj (by omega), Q4w, List.getElem?_eq_getElem hlt, Q0, Q2j, Q0, ih _ hm, Q0, Qi6 _ _ _ _ _ _ _ _ _ i (by omega) hE, List.drop_eq_getElem_cons hlt, List.drop_eq_getElem_cons (l := List.range E.length) (by rw [List.length_range]; omega), List.all_cons, List.getElem_range]
    have hd : dfAt (E.map Prod.fst) i = (isNm E[i].1 && !(((E.map Prod.fst).take i).any fun y => seq E[i].1 y)) := by unfold dfAt; rw [QqD hlt]
    rw [hd]
    show _ = some ((vT 3 E[i].2.2 && (!decide (E[i].2.1 < e) && (!decide (E[i].2.1 > 24) && cpM (vT 3) (E[i].2.1 + szT E[i].2.2) (E.drop (i + 1)) s))) && _)
    generalize (((E.map Prod.fst).take i).any fun y => seq E[i].1 y) = q
    cases hn : isNm E[i].1 with
    | false => rw [Bool.not_false, Qf, Bool.false_and, Bool.false_and, Bool.and_false]
    | true =>
      rw [Bool.not_true, Qb]
      by_cases c1 : E[i].2.1 < e
      · rw [Qj c1, decide_eq_true c1, Bool.not_true, Bool.false_and, Bool.and_false, Bool.false_and]
      · rw [Qi c1, decide_eq_false c1]
        by_cases c2 : E[i].2.1 > 24
        · rw [Qj c2, decide_eq_true c2, Bool.not_true, Bool.false_and, Bool.and_false, Bool.and_false, Bool.false_and]
        · rw [Qi c2, decide_eq_false c2]
          cases hv : vT 3 E[i].2.2 with
          | false => rfl
          | true =>
            have hz := Q0Q hv
            rw [Bool.not_true, Qb, Q1j hv, Q0, Qq (n := E[i].2.1 + szT E[i].2.2) (by omega) (by omega), Qh (by omega), ihn (i + 1) _ (by omega) (by omega) (by omega)]
            cases q
            · rfl
            · show some false = some (_ && ((true && false) && _))
              rw [Bool.and_false, Bool.false_and, Bool.and_false]
theorem Qjb (k s : Int) (g b : Bool) (N : List ByteArray) (M : List Int) (E : List (ByteArray × Int × Q7)) (B : List Q7) (c : Int) (ih : ∀ m ∈ E, Q1r m.2.2.Q3 m.2.2.Q8 m.2.2.Q2 m.2.2.Qa m.2.2.Q5 m.2.2.Q9 m.2.2.Q1 m.2.2.Q6 m.2.2.Q4 = some (vT 3 m.2.2)) : Q8f k s g b N M E B c = some (((inr s 1 24 && (!g && !b)) && ((lz N && lz M) && (lz B && (c == 0)))) && (inr (E.length : Int) 1 4 && (cpM (vT 3) 0 E s && dfN (E.map Prod.fst)))) := by
  have lp : ∀ {α : Type} (l : List α), decide ((l.length : Int) > 0) = !lz l := fun l => by
    unfold lz
    rw [Bool.eq_iff_iff]
    simp only [decide_eq_true_eq, Bool.not_eq_true', beq_eq_false_iff_ne]
    omega
  rw [QeJ, Q02, Q0, Q6p, Q0, lp, lp, lp]
  have hl : ¬ ((E.length : Int) < 1) → ¬ ((E.length : Int) > 4) → Q1p 0 0 k s g b N M E B c = some (cpM (vT 3) 0 E s && dfN (E.map Prod.fst)) := fun h1 h2 => by
    have := Qjp k s g b N M E B c ih (by omega) E.length 0 0 (by omega) (by omega) (by omega)
    rw [List.drop_zero, List.drop_zero] at this
    refine this.trans ?_
    unfold dfN
    rw [List.length_map]
  have he : sif (decide ((E.length : Int) < 1)) (some false) (sif (decide ((E.length : Int) > 4)) (some false) (Q1p 0 0 k s g b N M E B c)) = some (inr (E.length : Int) 1 4 && (cpM (vT 3) 0 E s && dfN (E.map Prod.fst))) := by
    by_cases h1 : (E.length : Int) < 1
    · rw [Qj h1, show inr (E.length : Int) 1 4 = false by rw [Bool.eq_false_iff]; intro h; rw [Q0j] at h; omega]; rfl
    · rw [Qi h1]
      by_cases h2 : (E.length : Int) > 4
      · rw [Qj h2, show inr (E.length : Int) 1 4 = false by rw [Bool.eq_false_iff]; intro h; rw [Q0j] at h; omega]; rfl
      · rw [Qi h2, hl h1 h2, show inr (E.length : Int) 1 4 = true by rw [Q0j]; omega]; rfl
  rw [he]
  generalize (inr (E.length : Int) 1 4 && (cpM (vT 3) 0 E s && dfN (E.map Prod.fst))) = q
  simp only [bne]
  cases inr s 1 24 <;> cases g <;> cases b <;> cases lz N <;> cases lz M <;> cases lz B <;> cases c == 0 <;> rfl
theorem QiS (k s : Int) (g b : Bool) (N : List ByteArray) (M : List Int) (E : List (ByteArray × Int × Q7)) (B : List Q7) (c : Int) (hN : N.length ≤ 140737488351232) : QbP k s g b N M E B c = some (((s == 0) && (!g && !b)) && ((lz E && (c == 0)) && enB N M B)) := by
  have lp : decide ((E.length : Int) > 0) = !lz E := by
    unfold lz
    rw [Bool.eq_iff_iff]
    simp only [decide_eq_true_eq, Bool.not_eq_true', beq_eq_false_iff_ne]
    omega
  rw [QhX, Q6p, Q0, lp]
  have tail : (sif (((B.length : Int) != 1)) (some false) <|
      sbind (idx B 0) fun x2 =>
      sif ((x2.Q3 != 1)) (some false) <|
      sbind (idx B 0) fun x3 =>
      sbind (Q6e x3.Q3 x3.Q8 x3.Q2 x3.Qa x3.Q5 x3.Q9 x3.Q1 x3.Q6 x3.Q4) fun r4 =>
      sif (!r4) (some false) <|
      sif (decide ((N.length : Int) < 1)) (some false) <|
      sif (decide ((N.length : Int) > 6)) (some false) <|
      sif (((M.length : Int) != (N.length : Int))) (some false) <|
      sbind (idx B 0) fun x5 =>
      sbind (Q68 x5.Q3 x5.Q8 x5.Q2 x5.Qa x5.Q5 x5.Q9 x5.Q1 x5.Q6 x5.Q4) fun r6 =>
      Q1t r6.1 r6.2 0 k s g b N M E B c) = some (enB N M B) := by
    match B with
    | [] => rfl
    | _ :: _ :: _ => rw [Qe (by rw [bne_iff_ne]; simp only [List.length_cons]; omega)]; rfl
    | [x] =>
      rw [Q1K (by rfl)]
      show sif (x.Q3 != 1) _ (sbind (Q6e x.Q3 x.Q8 x.Q2 x.Qa x.Q5 x.Q9 x.Q1 x.Q6 x.Q4) _) = some (enM N M x)
      rw [Qeo, Q0]
      unfold enM
      by_cases hk : x.Q3 = 1
      · rw [Q1K (by rw [bne_eq_false_iff_eq]; exact hk), kbeq hk, Bool.true_and]
        cases hi : (iOk x.Q8 x.Q2 x.Qa && Q3h x.Q5 x.Q9 x.Q1 x.Q6 x.Q4) with
        | false => rfl
        | true =>
          simp only [Bool.and_eq_true] at hi
          rw [Bool.not_true, Qb, Bool.true_and]
          by_cases hn : N.length = M.length
          · by_cases h1 : (N.length : Int) < 1
            · rw [Qj h1, show inr (M.length : Int) 1 6 = false by rw [Bool.eq_false_iff]; intro h; rw [Q0j] at h; omega, Bool.false_and, Bool.and_false]
            · rw [Qi h1]
              by_cases h2 : (N.length : Int) > 6
              · rw [Qj h2, show inr (M.length : Int) 1 6 = false by rw [Bool.eq_false_iff]; intro h; rw [Q0j] at h; omega, Bool.false_and, Bool.and_false]
              · rw [Qi h2, Q1K (by rw [bne_eq_false_iff_eq]; omega), show inr (M.length : Int) 1 6 = true by rw [Q0j]; omega, kbeq (show (N.length : Int) = M.length by omega), Bool.true_and, Bool.true_and]
                show sbind (Q68 x.Q3 x.Q8 x.Q2 x.Qa x.Q5 x.Q9 x.Q1 x.Q6 x.Q4) _ = _
                rw [Qio _ _ _ _ _ _ _ _ _ hi.1, Q0, QjH _ _ _ _ _ _ _ _ _ _ _ hn hN, hn]
          · rw [kbne (show (N.length : Int) ≠ M.length by omega), Bool.false_and, Bool.and_false, Bool.and_false, Qe (b := ((M.length : Int) != (N.length : Int))) (by rw [bne_iff_ne]; omega), Qc0, Qc0]
      · rw [Qe (by rw [bne_iff_ne]; exact hk), kbne hk]; rfl
  rw [tail]
  generalize enB N M B = q
  simp only [bne]
  cases s == 0 <;> cases g <;> cases b <;> cases lz E <;> cases c == 0 <;> cases q <;> rfl
/-! typeG -/
def arO (v : Q7 → Bool) : List Q7 → Bool
  | [x] => v x
  | _ => false
theorem Qkv (k s : Int) (g b : Bool) (N : List ByteArray) (M : List Int) (E : List (ByteArray × Int × Q7)) (B : List Q7) (c : Int) (ih : ∀ m ∈ B, Q1r m.Q3 m.Q8 m.Q2 m.Qa m.Q5 m.Q9 m.Q1 m.Q6 m.Q4 = some (vT 3 m)) : Qb1 k s g b N M E B c = some (((s == 0) && (!g && !b)) && (((lz N && lz M) && lz E) && (inr c 1 4 && arO (vT 3) B))) := by
  have lp : ∀ {α : Type} (l : List α), decide ((l.length : Int) > 0) = !lz l := fun l => by
    unfold lz
    rw [Bool.eq_iff_iff]
    simp only [decide_eq_true_eq, Bool.not_eq_true', beq_eq_false_iff_ne]
    omega
  rw [Qhn, Q6p, Q0, lp, lp, lp, Q02]
  have tail : (sif (((B.length : Int) != 1)) (some false) <|
      sbind (some (inr c 1 4)) fun r2 =>
      sif (r2)
       (sbind (idx B 0) fun x3 =>
        sbind (Q1r x3.Q3 x3.Q8 x3.Q2 x3.Qa x3.Q5 x3.Q9 x3.Q1 x3.Q6 x3.Q4) fun r4 =>
        some r4) (some false)) = some (inr c 1 4 && arO (vT 3) B) := by
    rw [Q0]
    match B, ih with
    | [], _ => rw [Qe (by rfl)]; show _ = some (_ && false); rw [Bool.and_false]
    | _ :: _ :: _, _ => rw [Qe (by rw [bne_iff_ne]; simp only [List.length_cons]; omega)]; show _ = some (_ && false); rw [Bool.and_false]
    | [x], ih =>
      rw [Q1K (by rfl)]
      show sif _ (sbind (Q1r x.Q3 x.Q8 x.Q2 x.Qa x.Q5 x.Q9 x.Q1 x.Q6 x.Q4) _) _ = some (_ && vT 3 x)
      rw [ih x (by simp), Q0, Qu]
  rw [tail]
  generalize (inr c 1 4 && arO (vT 3) B) = q
  simp only [bne]
  cases s == 0 <;> cases g <;> cases b <;> cases lz N <;> cases lz M <;> cases lz E <;> cases q <;> rfl
theorem QcI (k s : Int) (g b : Bool) (N : List ByteArray) (M : List Int) (E : List (ByteArray × Int × Q7)) (B : List Q7) (c : Int) : Qr false k s g b N M E B c = some false := by rw [Q7K]; rfl
theorem Qqa (t : Q7) (h : vT 4 t = true) : Qr true t.Q3 t.Q8 t.Q2 t.Qa t.Q5 t.Q9 t.Q1 t.Q6 t.Q4 = some (vT 3 t) := by
  have hz := Q0Q h
  rw [Q7K, Qf, Q1j h, Q0, Qj (by omega), QcG 4 (by omega) t h, Q0]
  exact congrArg some (Qm0 4 3 t (by omega) h)
theorem Q6T (t : Q7) (f : Bool) (h : f = vT 4 t) : Qr f t.Q3 t.Q8 t.Q2 t.Qa t.Q5 t.Q9 t.Q1 t.Q6 t.Q4 = some (vT 3 t) := by
  cases f with
  | true => exact Qqa t h.symm
  | false =>
    rw [QcI]
    cases h3 : vT 3 t with
    | false => rfl
    | true => rw [QjM h3] at h; cases h
theorem Qij (f : Bool) (k s : Int) (g b : Bool) (N : List ByteArray) (M : List Int) (E : List (ByteArray × Int × Q7)) (B : List Q7) (c : Int) (h2 : k ≠ 2) (h6 : k ≠ 6) : Q1i f k s g b N M E B c = Qr f k s g b N M E B c := by
  rw [Qba, kbne h2, kbne h6, Qb, Qb]
theorem Qr3 (f : Bool) (k s : Int) (g b : Bool) (N : List ByteArray) (M : List Int) (E : List (ByteArray × Int × Q7)) (B : List Q7) (c : Int) (h : k = 2 ∨ k = 6) : Q1i f k s g b N M E B c = Qr ((f && (!g && !b)) && Q3h N M E B c) k s g b N M E B c := by
  have e : (sif (f)
         (sbind (Q2S k s g b N M E B c) fun r1 =>
          sif (r1)
           (sif (((N.length : Int) == 0))
             (sif (((M.length : Int) == 0))
               (sif (((E.length : Int) == 0))
                 (sif (((B.length : Int) == 0))
                   (Qr (c == 0) k s g b N M E B c) <|
                  Qr false k s g b N M E B c) <|
                Qr false k s g b N M E B c) <|
              Qr false k s g b N M E B c) <|
            Qr false k s g b N M E B c) <|
          Qr false k s g b N M E B c) <|
        Qr false k s g b N M E B c) = Qr ((f && (!g && !b)) && Q3h N M E B c) k s g b N M E B c := by
    rw [Q6p, Q0]
    unfold Q3h lz
    generalize ((N.length : Int) == 0) = n1, ((M.length : Int) == 0) = n2, ((E.length : Int) == 0) = n3, ((B.length : Int) == 0) = n4, (c == 0) = n5
    cases f <;> cases g <;> cases b <;> cases n1 <;> cases n2 <;> cases n3 <;> cases n4 <;> rfl
  rw [Qba, e]
  rcases h with rfl | rfl
  · rfl
  · rfl
theorem QbY (t : Q7) : Qd t → Q1r t.Q3 t.Q8 t.Q2 t.Qa t.Q5 t.Q9 t.Q1 t.Q6 t.Q4 = some (vT 3 t) := by
  refine Q7.ind (P := fun t => Qd t → Q1r t.Q3 t.Q8 t.Q2 t.Qa t.Q5 t.Q9 t.Q1 t.Q6 t.Q4 = some (vT 3 t)) ?_ t
  intro t ih1 ih2 hok
  obtain ⟨l1, l2, l3, l4, k1, k2⟩ := Q8v hok
  rw [Ql7]
  by_cases c1 : t.Q3 = 1
  · rw [kbeq c1, Qf, Qeo, Q0, Qij _ _ _ _ _ _ _ _ _ _ (by omega) (by omega)]
    exact Q6T t _ (by rw [Q42, if_pos c1])
  rw [kbne c1, Qb]
  by_cases c2 : t.Q3 = 2
  · rw [kbeq c2, Qf, Q02, Q0, Qr3 _ _ _ _ _ _ _ _ _ _ (.inl c2)]
    exact Q6T t _ (by rw [Q42, if_neg c1, if_pos c2])
  rw [kbne c2, Qb]
  by_cases c3 : t.Q3 = 3
  · rw [kbeq c3, Qf, QiS _ _ _ _ _ _ _ _ _ l1, Q0, Qij _ _ _ _ _ _ _ _ _ _ (by omega) (by omega)]
    exact Q6T t _ (by rw [Q42, if_neg c1, if_neg c2, if_pos c3])
  rw [kbne c3, Qb]
  by_cases c4 : t.Q3 = 4
  · rw [kbeq c4, Qf, Qjb _ _ _ _ _ _ _ _ _ (fun m hm => ih1 m hm (k1 m hm)), Q0, Qij _ _ _ _ _ _ _ _ _ _ (by omega) (by omega)]
    exact Q6T t _ (by rw [vT_4 c4])
  rw [kbne c4, Qb]
  by_cases c5 : t.Q3 = 5
  · rw [kbeq c5, Qf, Qkv _ _ _ _ _ _ _ _ _ (fun m hm => ih2 m hm (k2 m hm)), Q0, Qij _ _ _ _ _ _ _ _ _ _ (by omega) (by omega)]
    cases hp : (((t.Q8 == 0) && (!t.Q2 && !t.Qa)) && (((lz t.Q5 && lz t.Q9) && lz t.Q1) && inr t.Q4 1 4)) with
    | false =>
      have e : (((t.Q8 == 0) && (!t.Q2 && !t.Qa)) && (((lz t.Q5 && lz t.Q9) && lz t.Q1) && (inr t.Q4 1 4 && arO (vT 3) t.Q6))) = false := by
        rw [← Bool.and_assoc ((lz t.Q5 && lz t.Q9) && lz t.Q1), ← Bool.and_assoc, hp, Bool.false_and]
      have e2 : vT 3 t = false := by
        rw [vT_5 c5, ← Bool.and_assoc ((lz t.Q5 && lz t.Q9) && lz t.Q1), ← Bool.and_assoc, hp, Bool.false_and]
      rw [e, e2, QcI]
    | true =>
      have e : (((t.Q8 == 0) && (!t.Q2 && !t.Qa)) && (((lz t.Q5 && lz t.Q9) && lz t.Q1) && (inr t.Q4 1 4 && arO (vT 3) t.Q6))) = arO (vT 3) t.Q6 := by
        rw [← Bool.and_assoc ((lz t.Q5 && lz t.Q9) && lz t.Q1), ← Bool.and_assoc, hp, Bool.true_and]
      have e4 : ∀ d, vT (d + 1) t = arB (vT d) t.Q4 t.Q6 := fun d => by
        rw [vT_5 c5, ← Bool.and_assoc ((lz t.Q5 && lz t.Q9) && lz t.Q1), ← Bool.and_assoc, hp, Bool.true_and]
      simp only [Bool.and_eq_true, Q0j] at hp
      rw [e]
      match hB : t.Q6 with
      | [] => rw [e4 2, hB]; show Qr false _ _ _ _ _ _ _ _ _ = _; rw [QcI]; rfl
      | _ :: _ :: _ => rw [e4 2, hB]; show Qr false _ _ _ _ _ _ _ _ _ = _; rw [QcI]; rfl
      | [x] =>
        show Qr (vT 3 x) t.Q3 t.Q8 t.Q2 t.Qa t.Q5 t.Q9 t.Q1 [x] t.Q4 = _
        rw [← hB]
        cases hv : vT 3 x with
        | false => exact Q6T t _ (by rw [e4 3, hB]; show false = (vT 3 x && _); rw [hv]; rfl)
        | true =>
          by_cases hs : t.Q4 * szT x ≤ 24
          · exact Q6T t _ (by rw [e4 3, hB]; show true = (vT 3 x && decide (t.Q4 * szT x ≤ 24)); rw [hv, decide_eq_true hs]; rfl)
          · have hz := Q0Q hv
            have hc := hp.2.2
            have h4 : t.Q4 * szT x ≤ 4 * 24 := Int.mul_le_mul hc.2 hz.2 (by omega) (by omega)
            have e3 : vT 3 t = false := by
              rw [e4 2, hB]; show (vT 2 x && decide (t.Q4 * szT x ≤ 24)) = false; rw [decide_eq_false hs, Bool.and_false]
            rw [e3, Q7K, Qf, Qcw, kbne c3, kbeq c5, Qb, Qf, hB]
            show sbind (sbind (Q0D x.Q3 x.Q8 x.Q2 x.Qa x.Q5 x.Q9 x.Q1 x.Q6 x.Q4) _) _ = _
            rw [Q1j hv, Q0, Q0, Qq (by omega) (by omega), Qi hs]
  rw [kbne c5, Qb]
  by_cases c6 : t.Q3 = 6
  · rw [kbeq c6, Qf, Qr3 _ _ _ _ _ _ _ _ _ _ (.inr c6)]
    exact Q6T t _ (by rw [Q42, if_neg c1, if_neg c2, if_neg c3, if_neg c4, if_neg c5, if_pos c6])
  · rw [kbne c6, Qb, Qij _ _ _ _ _ _ _ _ _ _ (by omega) (by omega)]
    exact Q6T t _ (by rw [Q42, if_neg c1, if_neg c2, if_neg c3, if_neg c4, if_neg c5, if_neg c6])
/-! leL -/
def leN : List Int → Int
  | [] => 0
  | b :: r => b + 256 * leN r
theorem Qfb : ∀ {l : List Int}, inB l → 0 ≤ leN l
  | [], _ => by simp [leN]
  | b :: r, h => by
    have := Qfb (l := r) (fun x hx => h x (by simp [hx])); have := h b (by simp); simp only [leN]; omega
theorem Qfo : ∀ {l : List Int}, inB l → leN l < 256 ^ l.length
  | [], _ => by simp [leN]
  | b :: r, h => by
    have := Qfo (l := r) (fun x hx => h x (by simp [hx])); have := h b (by simp)
    simp only [leN, List.length_cons, Int.pow_succ]; omega
theorem Qhv : ∀ (a b : List Int), leN (a ++ b) = leN a + 256 ^ a.length * leN b
  | [], b => by simp [leN]
  | x :: a, b => by
    simp only [List.cons_append, leN, Qhv a b, List.length_cons, Int.pow_succ]
    rw [Int.mul_add, Int.mul_comm (256 ^ a.length) 256, Int.mul_assoc]; omega
theorem QbV {l : List Int} (h : inB l) (n : Nat) : inB (l.take n) := fun x hx => h x (List.mem_of_mem_take hx)
theorem Qej {l : List Int} (h : inB l) (n : Nat) : inB (l.drop n) := fun x hx => h x (List.mem_of_mem_drop hx)
def leB (n : Int) (k : Nat) : List Int := (List.range k).map (fun i => wu8 (Int.fdiv n (2 ^ (8 * i))))
theorem Qm (n : Int) (k : Nat) : (leB n k).length = k := by simp [leB]
theorem Qs0 (n : Int) (k : Nat) : inB (leB n k) := by
  intro x hx
  obtain ⟨i, _, rfl⟩ := List.mem_map.1 hx
  rw [QjO]; omega
theorem Qop (n : Int) (i : Nat) : Int.fdiv n (2 ^ (8 * (i + 1))) = Int.fdiv (Int.fdiv n 256) (2 ^ (8 * i)) := by
  rw [Int.fdiv_eq_ediv_of_nonneg _ (Int.pow_nonneg (by decide)), Int.fdiv_eq_ediv_of_nonneg _ (Int.pow_nonneg (by decide)), Int.fdiv_eq_ediv_of_nonneg _ (by decide)]
  rw [Int.ediv_ediv_of_nonneg (by decide)]
  congr 1
  rw [Nat.mul_add, Int.pow_add, Int.mul_comm]; rfl
theorem QqV (n : Int) (k : Nat) : leB n (k + 1) = wu8 n :: leB (Int.fdiv n 256) k := by
  unfold leB
  rw [List.range_succ_eq_map, List.map_cons, List.map_map]
  congr 1
  · simp [Int.fdiv_one]
  · refine List.map_congr_left (fun i _ => ?_)
    simp only [Function.comp]
    rw [Nat.succ_eq_add_one, Qop]
theorem QpG {x b k : Nat} (h : x < 2 ^ k) : x ||| (b * 2 ^ k) = x + b * 2 ^ k := by
  have := Nat.shiftLeft_add_eq_or_of_lt h b
  rw [Nat.shiftLeft_eq] at this
  rw [Nat.or_comm, ← this, Nat.add_comm]
theorem Qn3 {x y : Nat} (hx : x < 18446744073709551616) (hy : y < 18446744073709551616) : bits .or .u64 (x : Int) (y : Int) = ((x ||| y : Nat) : Int) := by
  have e : bits .or .u64 (x : Int) (y : Int) = wu64 (((BitVec.ofInt 64 (x : Int)) ||| (BitVec.ofInt 64 (y : Int))).toNat : Int) := rfl
  have hxy : x ||| y < 2 ^ 64 := Nat.or_lt_two_pow hx hy
  rw [e, BitVec.toNat_or, BitVec.ofInt_natCast, BitVec.ofInt_natCast, BitVec.toNat_ofNat, BitVec.toNat_ofNat, Nat.mod_eq_of_lt hx, Nat.mod_eq_of_lt hy, Q8G (by omega) (by omega)]
theorem QrF {n b : Int} {i : Nat} (hi : i ≤ 7) (h0 : 0 ≤ n) (h1 : n < 256 ^ i) (b0 : 0 ≤ b) (b1 : b ≤ 255) : bits .or .u64 n (wu64 ((wu64 b) * 2 ^ (min (wi64 (8 * (i : Int))).toNat 64))) = n + 256 ^ i * b := by
  rw [Qq (by omega) (by omega), Q8G (n := b) (by omega) (by omega)]
  have hm : min (8 * (i : Int)).toNat 64 = 8 * i := by omega
  rw [hm]
  have hp : (256 : Int) ^ i = 2 ^ (8 * i) := by rw [Int.pow_mul]; rfl
  have hpn : ((2 ^ (8 * i) : Nat) : Int) = 2 ^ (8 * i) := by push_cast; rfl
  have hle : (2 : Nat) ^ (8 * i) ≤ 2 ^ 56 := Nat.pow_le_pow_right (by decide) (by omega)
  obtain ⟨bn, rfl⟩ : ∃ bn : Nat, b = bn := ⟨b.toNat, by omega⟩
  obtain ⟨nn, rfl⟩ : ∃ nn : Nat, n = nn := ⟨n.toNat, by omega⟩
  rw [hp, ← hpn] at h1
  have hmul : bn * 2 ^ (8 * i) ≤ 255 * 2 ^ 56 := Nat.mul_le_mul (by omega) hle
  rw [hp, ← hpn, ← Int.natCast_mul, Q8G (by omega) (by omega), Qn3 (by omega) (by omega), QpG (by omega)]
  push_cast
  rw [Int.mul_comm]
theorem QrG (m : Int) : wu8 (bits .and .i64 m 255) = wu8 m := by
  have e : bits .and .i64 m 255 = wi64 (((BitVec.ofInt 64 m) &&& 255#64).toNat : Int) := rfl
  have h : ∀ x : BitVec 64, (x &&& 255#64).toNat = x.toNat % 256 := fun x => by
    rw [BitVec.toNat_and]; exact Nat.and_two_pow_sub_one_eq_mod x.toNat 8
  rw [e, h, BitVec.toNat_ofInt, Qq (by omega) (by omega), QjO, QjO]
  omega
theorem Ql (a b : List Int) : toB a ++ toB b = toB (a ++ b) := by
  unfold toB
  apply ByteArray.ext
  simp
theorem QK {a b : List Int} (h : a.length + b.length ≤ 4611686018427387904) : joins (toB a) (toB b) = true := Q6H (by rw [Qz, Qz]; omega)
theorem Qgv (l : List Int) (i j : Nat) : (toB l).extract i j = toB ((l.take j).drop i) := by
  unfold toB
  apply ByteArray.ext
  simp [ByteArray.data_extract, List.map_take, List.map_drop, List.drop_take]
theorem Q6O {l : List Int} (h : inB l) {i : Int} (h0 : 0 ≤ i) : bidx (toB l) i = l[i.toNat]? := by rw [Qmy, Q6j h, Qrt h0]
theorem QrA {a b : List Int} (ha : inB a) (hb : inB b) (h : toB a = toB b) : a = b := by rw [← Q6j ha, h, Q6j hb]
theorem Qrm {a b : List Int} (ha : inB a) (hb : inB b) : seq (toB a) (toB b) = decide (a = b) := by
  rw [Qq2, Bool.eq_iff_iff]
  simp only [decide_eq_true_eq]
  exact ⟨QrA ha hb, fun h => by rw [h]⟩
/-! putL -/
theorem Qdu (n : Int) : leB n 1 = [wu8 n] := by rw [QqV]; simp [leB]
theorem QC (n : Int) : QU n = some (toB (leB n 1)) := by rw [Qif, Qdu]
theorem Qc3 (n : Int) (k : Nat) (hk : k ≤ 8) : Q6i n (k : Int) false = some (toB (leB n k)) := by
  rw [Qjn]
  have := QiX k (fun i out => Q5x n (k : Int) false out (i : Int)) (fun _ _ => some (toB (leB n k))) (fun i out => out = toB (leB n i)) (fun out ho => by
      rw [Qb5, Qi (by omega), ho])
    (fun i out hi ho ih => by
      rw [Qb5, Qj (by omega), Qq (n := 8 * (i : Int)) (by omega) (by omega), Q8G (by omega) (by omega), Qi (by omega), QC, Q0, Qb, ho, Qe (QK (by simp [Qm]; omega)), Qh (by omega)]
      refine ih _ ?_
      rw [Ql, Qdu, QrG, show min (8 * (i : Int)).toNat 64 = 8 * i by omega]
      congr 1
      unfold leB
      rw [List.range_succ, List.map_append]; rfl) 0 (bs []) (by omega) rfl
  simpa using this
theorem Q14 (n : Int) (k : Nat) (hk : k ≤ 8) : Qv n (k : Int) = some (toB (leB n k)) := by
  rw [Qh9, Qe (by rw [Q0n (by omega) (by omega)]; exact Q38 (by omega)), Int.toNat_natCast, List.length_replicate]
  have := QiX k (fun i out => Q5M n (k : Int) (i : Int) out) (fun _ _ => some (toB (leB n k))) (fun i out => out = leB n i ++ List.replicate (k - i) 0) (fun out ho => by
      rw [Q9J, Qi (by omega), ho]; simp)
    (fun i out hi ho ih => by
      have hlen : out.length = k := by rw [ho, List.length_append, Qm, List.length_replicate]; omega
      rw [Q9J, Qj (by omega), Qq (n := 8 * (i : Int)) (by omega) (by omega), Qi (by omega), Qe (Q4U (by omega) (by omega)), Qh (by omega), Int.toNat_natCast]
      refine ih _ ?_
      rw [ho, show min (8 * (i : Int)).toNat 64 = 8 * i by omega]
      have e1 : k - i = (k - (i + 1)) + 1 := by omega
      rw [e1, List.replicate_succ, List.set_append_right _ _ (by rw [Qm]; exact Nat.le_refl _), Qm, Nat.sub_self, List.set_cons_zero]
      unfold leB
      rw [List.range_succ, List.map_append, List.append_assoc]; rfl) 0 (List.replicate k 0) (by omega) (by simp [leB])
  simpa using this
/-! encL -/
/-! the binary form of a type -/
theorem Q5L {α R : Type} (l : List α) (F : Nat → ByteArray → Option R) (f : α → List Int) (K P B : Nat) (hB : P + l.length * K ≤ B) (hK : ∀ x ∈ l, (f x).length ≤ K) (G : List Int → Option R) (hend : ∀ o, o.length ≤ B → F l.length (toB o) = G o)
    (hs : ∀ i x o, l[i]? = some x → i < l.length → (f x).length ≤ K → o.length + K ≤ B → F i (toB o) = F (i + 1) (toB (o ++ f x))) (o : List Int) (ho : o.length ≤ P) : F 0 (toB o) = G (o ++ l.flatMap f) := by
  have k := Q7y l (fun i (o : List Int) => F i (toB o)) (fun l o => G (o ++ l.flatMap f)) (fun i o => o.length ≤ P + i * K)
    (fun o hI => by rw [hend o (by omega)]; simp)
    (fun i x r o hx hi hd hI ih => by
      have h1 : (i + 1) * K ≤ l.length * K := Nat.mul_le_mul_right K hi
      rw [Nat.add_mul, Nat.one_mul] at h1
      have h2 := hK x (Qo hx)
      rw [hs i x o hx hi h2 (by omega), ih _ (by rw [List.length_append, Nat.add_mul, Nat.one_mul]; omega)]
      simp) 0 o (by omega) (by omega)
  exact k
theorem Q8s {α : Type} (f : α → List Int) (K : Nat) : ∀ (l : List α), (∀ x ∈ l, (f x).length ≤ K) → (l.flatMap f).length ≤ l.length * K
  | [], _ => by simp
  | x :: r, h => by
    have ih := Q8s f K r (fun y hy => h y (by simp [hy]))
    have hx := h x (by simp)
    rw [List.flatMap_cons, List.length_append, List.length_cons, Nat.add_mul, Nat.one_mul]
    omega
def flI (t : Q7) : Int := (if t.Q2 = true then 1 else 0) + 2 * (if t.Qa = true then 1 else 0)
def ecI (t : Q7) : List Int := (leB t.Q3 1 ++ leB t.Q8 1) ++ leB (flI t) 1
def wN (p : ByteArray × Int) : List Int := (leB (p.1.size : Int) 1 ++ ofB p.1) ++ leB p.2 8
def wM (e : Q7 → List Int) (m : ByteArray × Int × Q7) : List Int := ((leB (m.1.size : Int) 1 ++ ofB m.1) ++ leB m.2.1 1) ++ e m.2.2
def enI : List Q7 → List Int
  | [x] => ecI x
  | _ => []
def arI (e : Q7 → List Int) : List Q7 → List Int
  | [x] => e x
  | _ => []
def ecT : Nat → Q7 → List Int
  | 0, _ => []
  | d + 1, t => if t.Q3 = 1 then ecI t else if t.Q3 = 2 then leB t.Q3 1 ++ leB t.Q8 1
      else if t.Q3 = 3 then (leB t.Q3 1 ++ (enI t.Q6 ++ leB (t.Q5.length : Int) 1)) ++ (t.Q5.zip t.Q9).flatMap wN
      else if t.Q3 = 4 then (leB t.Q3 1 ++ (leB t.Q8 1 ++ leB (t.Q1.length : Int) 1)) ++ t.Q1.flatMap (wM (ecT d))
      else if t.Q3 = 5 then leB t.Q3 1 ++ (leB t.Q4 1 ++ arI (ecT d) t.Q6) else leB t.Q3 1
theorem Qha (d : Nat) (t : Q7) : ecT (d + 1) t = if t.Q3 = 1 then ecI t else if t.Q3 = 2 then leB t.Q3 1 ++ leB t.Q8 1
      else if t.Q3 = 3 then (leB t.Q3 1 ++ (enI t.Q6 ++ leB (t.Q5.length : Int) 1)) ++ (t.Q5.zip t.Q9).flatMap wN
      else if t.Q3 = 4 then (leB t.Q3 1 ++ (leB t.Q8 1 ++ leB (t.Q1.length : Int) 1)) ++ t.Q1.flatMap (wM (ecT d))
      else if t.Q3 = 5 then leB t.Q3 1 ++ (leB t.Q4 1 ++ arI (ecT d) t.Q6) else leB t.Q3 1 := rfl
theorem Q8w (t : Q7) : (ecI t).length = 3 := by simp [ecI, Qm]
/-- how long a form may get -/
def cT : Nat → Nat
  | 0 => 4503599627370496
  | d + 1 => 5 * cT d + 4503599627370496
theorem Qla {d : Nat} (h : d ≤ 3) : cT d ≤ 720575940379279360 := by
  rcases (by omega : d = 0 ∨ d = 1 ∨ d = 2 ∨ d = 3) with rfl | rfl | rfl | rfl <;> decide
theorem Qs9 (d : Nat) : 4503599627370496 ≤ cT d := by
  cases d with
  | zero => exact Nat.le_refl _
  | succ d => rw [cT]; omega
theorem Qh2 {t : Q7} (h : Qd t) : (∀ s ∈ t.Q5, s.size ≤ 140737488351232) ∧ ∀ m ∈ t.Q1, m.1.size ≤ 140737488351232 := by
  have h := Qd.out h
  exact ⟨h.2.2.2.2.1.2.2, fun m hm => (h.2.2.2.2.2.2.1.2.2 m hm).1⟩
theorem Qjz {α β : Type} {A : List α} {D : List β} {i : Nat} {x : α × β} (h : (A.zip D)[i]? = some x) : A[i]? = some x.1 ∧ D[i]? = some x.2 := by
  rw [List.getElem?_zip_eq_some] at h
  exact h
theorem QlS {N : List ByteArray} {M : List Int} (h : ∀ s ∈ N, s.size ≤ 140737488351232) : ∀ p ∈ N.zip M, (wN p).length ≤ 140737488351300 := fun p hp => by
  obtain ⟨i, hi⟩ := List.mem_iff_getElem?.1 hp
  have := h _ (Qo (Qjz hi).1)
  unfold wN
  rw [List.length_append, List.length_append, Qm, Qm, ofB_len]; omega
theorem QgG {N : List ByteArray} {M : List Int} {x : Q7} (h : enM N M x = true) : N.length = M.length ∧ M.length ≤ 6 := by
  unfold enM at h
  simp only [Bool.and_eq_true, Q0j, beq_iff_eq] at h
  exact ⟨by omega, by omega⟩
theorem Q6g : ∀ (d : Nat) (t : Q7), Qd t → vT d t = true → (ecT d t).length ≤ cT d
  | 0, _, _, h => by cases h
  | d + 1, t, hok, h => by
    obtain ⟨l1, l2, l3, l4, k1, k2⟩ := Q8v hok
    obtain ⟨n1, n2⟩ := Qh2 hok
    have hg := Qs9 d
    rw [Qha, cT]
    rcases Q5D h with ⟨hk, h1⟩ | ⟨hk, h1⟩ | ⟨hk, x, hx, h1⟩ | ⟨hk, h1, h2, h3⟩ | ⟨hk, h1, x, hx, h2, h3⟩ | ⟨hk, h1⟩
    · rw [if_pos hk, Q8w]; omega
    · rw [if_neg (by omega), if_pos hk, List.length_append, Qm, Qm]; omega
    · obtain ⟨e1, e2⟩ := QgG h1
      have hz : (t.Q5.zip t.Q9).length ≤ 6 := by rw [List.length_zip]; omega
      have hf := Q8s wN _ _ (QlS (M := t.Q9) n1)
      have hm := Nat.mul_le_mul_right 140737488351300 hz
      rw [if_neg (by omega), if_neg (by omega), if_pos hk, List.length_append, List.length_append, List.length_append, Qm, Qm, hx]
      show 1 + ((ecI x).length + 1) + _ ≤ _
      rw [Q8w]; omega
    · have hf := Q8s (wM (ecT d)) (140737488351300 + cT d) t.Q1 (fun m hm => by
        have a := n2 m hm
        have b := Q6g d m.2.2 (k1 m hm) (Q4v h3 m hm)
        unfold wM
        rw [List.length_append, List.length_append, List.length_append, Qm, Qm, ofB_len]; omega)
      have hm := Nat.mul_le_mul_right (140737488351300 + cT d) h2.2
      rw [if_neg (by omega), if_neg (by omega), if_neg (by omega), if_pos hk, List.length_append, List.length_append, List.length_append, Qm, Qm, Qm]
      omega
    · have b := Q6g d x (k2 x (by rw [hx]; simp)) h2
      rw [if_neg (by omega), if_neg (by omega), if_neg (by omega), if_neg (by omega), if_pos hk, List.length_append, List.length_append, Qm, Qm, hx]
      show 1 + (1 + (ecT d x).length) ≤ _
      omega
    · rw [if_neg (by omega), if_neg (by omega), if_neg (by omega), if_neg (by omega), if_neg (by omega), Qm]; omega
theorem Qgr (x : Q7) (hk : x.Q3 = 1) : Q1L x.Q3 x.Q8 x.Q2 x.Qa x.Q5 x.Q9 x.Q1 x.Q6 x.Q4 = some (toB (ecI x)) := by
  rw [Q2N, QC, Q0, kbeq hk, Qf, QC, Q0, Q0, Q0, Q0, Qe (QK (by simp [Qm])), Ql]
  simp only [QC, Q0]
  have j : ∀ n : Int, joins (toB (leB x.Q3 1 ++ leB x.Q8 1)) (toB (leB n 1)) = true := fun n => QK (by simp [Qm])
  simp only [j, Qf, Ql]
  unfold ecI flI
  cases x.Q2 <;> cases x.Qa <;> rfl
theorem Qgq (x : Q7) (hk : x.Q3 = 1) : Q1H x.Q3 x.Q8 x.Q2 x.Qa x.Q5 x.Q9 x.Q1 x.Q6 x.Q4 = some (toB (ecI x)) := by
  have p1 := fun n : Int => Q14 n 1 (by omega)
  rw [Q25, show Qv x.Q3 1 = _ from p1 _, Q0, kbeq hk, Qf, show Qv x.Q8 1 = _ from p1 _, Q0, Qe (QK (by simp [Qm])), Ql, Qen, Qen]
  have q : ∀ n : Int, Qv n 1 = some (toB (leB n 1)) := p1
  have j : ∀ n : Int, joins (toB (leB x.Q3 1 ++ leB x.Q8 1)) (toB (leB n 1)) = true := fun n => QK (by simp [Qm])
  unfold ecI flI
  cases x.Q2 <;> cases x.Qa <;> simp only [Qf, Qb, Q0, q, j, Ql] <;> rfl
theorem Q5c (s : ByteArray) (h : s.size ≤ 140737488351232) : Q5m s = some (toB (leB (s.size : Int) 1 ++ ofB s)) := by
  have p1 : Qv (s.size : Int) 1 = _ := Q14 (s.size : Int) 1 (by omega)
  have e : toB (ofB s) = s := Q2q s
  rw [Qi5, p1, Q0, ← Ql, e, Qe (Q6H (by rw [Qz, Qm]; omega))]
theorem Q60 : ∀ (d : Nat) (t : Q7), d ≤ 3 → Qd t → vT d t = true → Q1L t.Q3 t.Q8 t.Q2 t.Qa t.Q5 t.Q9 t.Q1 t.Q6 t.Q4 = some (toB (ecT d t))
  | 0, _, _, _, h => by cases h
  | d + 1, t, hd, hok, h => by
    obtain ⟨l1, l2, l3, l4, k1, k2⟩ := Q8v hok
    obtain ⟨n1, n2⟩ := Qh2 hok
    have hc := Qla (d := d) (by omega)
    rw [Qha]
    rcases Q5D h with ⟨hk, h1⟩ | ⟨hk, h1⟩ | ⟨hk, x, hx, h1⟩ | ⟨hk, h1, h2, h3⟩ | ⟨hk, h1, x, hx, h2, h3⟩ | ⟨hk, h1⟩
    · rw [if_pos hk, Qgr t hk]
    · rw [if_neg (by omega), if_pos hk, Q2N, QC, Q0, kbne (show t.Q3 ≠ 1 by omega), kbeq hk, Qb, Qf, QC, Q0, Qe (QK (by simp [Qm])), Ql]
    · obtain ⟨e1, e2⟩ := QgG h1
      have hi := Q9R h1
      have hz : (t.Q5.zip t.Q9).length = t.Q5.length := by rw [List.length_zip]; omega
      have lp := Q5L (t.Q5.zip t.Q9) (fun i out => Q4H out (i : Int) t.Q3 t.Q8 t.Q2 t.Qa t.Q5 t.Q9 t.Q1 t.Q6 t.Q4) wN 140737488351300 100 2305843009213693952 (by omega) (QlS n1) (fun o => some (toB o))
        (fun o ho => by rw [hz, Q8z, Qi (by omega)])
        (fun i p o hp hi hK hoB => by
          obtain ⟨g1, g2⟩ := Qjz hp
          have hs := n1 _ (Qo g1)
          have e : toB (ofB p.1) = p.1 := Q2q p.1
          have pt : Q6i p.2 8 false = some (toB (leB p.2 8)) := Qc3 p.2 8 (by omega)
          have j1 : joins (toB (leB (p.1.size : Int) 1)) p.1 = true := Q6H (by rw [Qz, Qm]; omega)
          have a1 : toB (leB (p.1.size : Int) 1) ++ p.1 = toB (leB (p.1.size : Int) 1 ++ ofB p.1) := by rw [← Ql, e]
          rw [Q8z, Qj (by omega), Qg g1, Q0, QC, Q0, Q0, Qe j1, Qg g2, Q0, pt, Q0, a1, Qe (QK (by rw [List.length_append, Qm, Qm, ofB_len]; omega)), Ql, show (leB (p.1.size : Int) 1 ++ ofB p.1) ++ leB p.2 8 = wN p from rfl, Qe (QK (by omega)), Ql, Qh (by omega)])
        (leB t.Q3 1 ++ (ecI x ++ leB (t.Q5.length : Int) 1)) (by simp [Qm, Q8w])
      rw [if_neg (by omega), if_neg (by omega), if_pos hk, Q2N, QC, Q0, kbne (show t.Q3 ≠ 1 by omega), kbne (show t.Q3 ≠ 2 by omega), kbeq hk, Qb, Qb, Qf]
      have hb0 : idx t.Q6 0 = some x := by rw [hx]; rfl
      rw [hb0, Q0, Qgr x hi.1, Q0, QC, Q0, Qe (QK (by simp [Qm, Q8w])), Ql, Qe (QK (by simp [Qm, Q8w])), Ql]
      rw [hx] at lp ⊢
      exact lp
    · have lp := Q5L t.Q1 (fun i out => Q4B out (i : Int) t.Q3 t.Q8 t.Q2 t.Qa t.Q5 t.Q9 t.Q1 t.Q6 t.Q4) (wM (ecT d)) (140737488351300 + cT d) 100 4611686018427387000 (by have := Nat.mul_le_mul_right (140737488351300 + cT d) h2.2; omega)
        (fun m hm => by
          have a := n2 m hm
          have b := Q6g d m.2.2 (k1 m hm) (Q4v h3 m hm)
          unfold wM
          rw [List.length_append, List.length_append, List.length_append, Qm, Qm, ofB_len]; omega) (fun o => some (toB o))
        (fun o ho => by rw [Q8x, Qi (by omega)])
        (fun i m o hm hi hK hoB => by
          have hmm := Qo hm
          have hs := n2 m hmm
          have hb := Q6g d m.2.2 (k1 m hmm) (Q4v h3 m hmm)
          have e : toB (ofB m.1) = m.1 := Q2q m.1
          have ih := Q60 d m.2.2 (by omega) (k1 m hmm) (Q4v h3 m hmm)
          have j1 : joins (toB (leB (m.1.size : Int) 1)) m.1 = true := Q6H (by rw [Qz, Qm]; omega)
          have a1 : toB (leB (m.1.size : Int) 1) ++ m.1 = toB (leB (m.1.size : Int) 1 ++ ofB m.1) := by rw [← Ql, e]
          rw [Q8x, Qj (by omega), Qg hm, Q0, QC, Q0, Qe j1, QC, Q0, a1, Qe (QK (by rw [List.length_append, Qm, Qm, ofB_len]; omega)), Ql, ih, Q0, Qe (QK (by rw [List.length_append, List.length_append, Qm, Qm, ofB_len]; omega)), Ql,
            show ((leB (m.1.size : Int) 1 ++ ofB m.1) ++ leB m.2.1 1) ++ ecT d m.2.2 = wM (ecT d) m from rfl, Qe (QK (by omega)), Ql, Qh (by omega)])
        (leB t.Q3 1 ++ (leB t.Q8 1 ++ leB (t.Q1.length : Int) 1)) (by simp [Qm])
      rw [if_neg (by omega), if_neg (by omega), if_neg (by omega), if_pos hk, Q2N, QC, Q0, kbne (show t.Q3 ≠ 1 by omega), kbne (show t.Q3 ≠ 2 by omega), kbne (show t.Q3 ≠ 3 by omega), kbeq hk, Qb, Qb, Qb, Qf, QC, Q0, QC, Q0, Qe (QK (by simp [Qm])), Ql, Qe (QK (by simp [Qm])), Ql]
      exact lp
    · have hokx := k2 x (by rw [hx]; simp)
      have hb := Q6g d x hokx h2
      have ih := Q60 d x (by omega) hokx h2
      have hb0 : idx t.Q6 0 = some x := by rw [hx]; rfl
      rw [if_neg (by omega), if_neg (by omega), if_neg (by omega), if_neg (by omega), if_pos hk, Q2N, QC, Q0, kbne (show t.Q3 ≠ 1 by omega), kbne (show t.Q3 ≠ 2 by omega), kbne (show t.Q3 ≠ 3 by omega), kbne (show t.Q3 ≠ 4 by omega), kbeq hk, Qb, Qb, Qb, Qb, Qf, QC, Q0, hb0, Q0, ih, Q0, Qe (QK (by rw [Qm]; omega)), Ql, Qe (QK (by rw [List.length_append, Qm, Qm]; omega)), Ql, hx]
      rfl
    · rw [if_neg (by omega), if_neg (by omega), if_neg (by omega), if_neg (by omega), if_neg (by omega), Q2N, QC, Q0, kbne (show t.Q3 ≠ 1 by omega), kbne (show t.Q3 ≠ 2 by omega), kbne (show t.Q3 ≠ 3 by omega), kbne (show t.Q3 ≠ 4 by omega), kbne (show t.Q3 ≠ 5 by omega), Qb, Qb, Qb, Qb, Qb]
theorem Q65 : ∀ (d : Nat) (t : Q7), d ≤ 3 → Qd t → vT d t = true → Q1H t.Q3 t.Q8 t.Q2 t.Qa t.Q5 t.Q9 t.Q1 t.Q6 t.Q4 = some (toB (ecT d t))
  | 0, _, _, _, h => by cases h
  | d + 1, t, hd, hok, h => by
    obtain ⟨l1, l2, l3, l4, k1, k2⟩ := Q8v hok
    obtain ⟨n1, n2⟩ := Qh2 hok
    have hc := Qla (d := d) (by omega)
    have p1 : ∀ n : Int, Qv n 1 = some (toB (leB n 1)) := fun n => Q14 n 1 (by omega)
    have p8 : ∀ n : Int, Qv n 8 = some (toB (leB n 8)) := fun n => Q14 n 8 (by omega)
    rw [Qha]
    rcases Q5D h with ⟨hk, h1⟩ | ⟨hk, h1⟩ | ⟨hk, x, hx, h1⟩ | ⟨hk, h1, h2, h3⟩ | ⟨hk, h1, x, hx, h2, h3⟩ | ⟨hk, h1⟩
    · rw [if_pos hk, Qgq t hk]
    · rw [if_neg (by omega), if_pos hk, Q25, p1, Q0, kbne (show t.Q3 ≠ 1 by omega), kbeq hk, Qb, Qf, p1, Q0, Qe (QK (by simp [Qm])), Ql]
    · obtain ⟨e1, e2⟩ := QgG h1
      have hi := Q9R h1
      have hz : (t.Q5.zip t.Q9).length = t.Q5.length := by rw [List.length_zip]; omega
      have lp := Q5L (t.Q5.zip t.Q9) (fun i out => Q3M out t.Q5 (t.Q5.length : Int) (i : Int) t.Q3 t.Q8 t.Q2 t.Qa t.Q5 t.Q9 t.Q1 t.Q6 t.Q4) wN 140737488351300 100 2305843009213693952 (by omega) (QlS n1) (fun o => some (toB o))
        (fun o ho => by rw [hz, Q7F, Qi (by omega)])
        (fun i p o hp hi hK hoB => by
          obtain ⟨g1, g2⟩ := Qjz hp
          have hs := n1 _ (Qo g1)
          rw [Q7F, Qj (by omega), Qg g1, Q0, Q5c _ hs, Q0, Qg g2, Q0, p8, Q0, Qe (QK (by rw [List.length_append, Qm, Qm, ofB_len]; omega)), Ql, show (leB (p.1.size : Int) 1 ++ ofB p.1) ++ leB p.2 8 = wN p from rfl, Qe (QK (by omega)), Ql, Qh (by omega)])
        (leB t.Q3 1 ++ (ecI x ++ leB (t.Q5.length : Int) 1)) (by simp [Qm, Q8w])
      rw [if_neg (by omega), if_neg (by omega), if_pos hk, Q25, p1, Q0, kbne (show t.Q3 ≠ 1 by omega), kbne (show t.Q3 ≠ 2 by omega), kbeq hk, Qb, Qb, Qf]
      have hb0 : idx t.Q6 0 = some x := by rw [hx]; rfl
      rw [hb0, Q0, Qgq x hi.1, Q0, p1, Q0, Qe (QK (by simp [Qm, Q8w])), Ql, Qe (QK (by simp [Qm, Q8w])), Ql]
      rw [hx] at lp ⊢
      exact lp
    · have lp := Q5L t.Q1 (fun i out => Q3L out t.Q1 (t.Q1.length : Int) (i : Int)) (wM (ecT d)) (140737488351300 + cT d) 100 4611686018427387000 (by have := Nat.mul_le_mul_right (140737488351300 + cT d) h2.2; omega)
        (fun m hm => by
          have a := n2 m hm
          have b := Q6g d m.2.2 (k1 m hm) (Q4v h3 m hm)
          unfold wM
          rw [List.length_append, List.length_append, List.length_append, Qm, Qm, ofB_len]; omega) (fun o => some (toB o))
        (fun o ho => by rw [Q7D, Qi (by omega)])
        (fun i m o hm hi hK hoB => by
          have hmm := Qo hm
          have hs := n2 m hmm
          have hb := Q6g d m.2.2 (k1 m hmm) (Q4v h3 m hmm)
          have ih := Q65 d m.2.2 (by omega) (k1 m hmm) (Q4v h3 m hmm)
          rw [Q7D, Qj (by omega), Qg hm, Q0, Q5c _ hs, Q0, p1, Q0, Qe (QK (by rw [List.length_append, Qm, Qm, ofB_len]; omega)), Ql, ih, Q0, Qe (QK (by rw [List.length_append, List.length_append, Qm, Qm, ofB_len]; omega)), Ql,
            show ((leB (m.1.size : Int) 1 ++ ofB m.1) ++ leB m.2.1 1) ++ ecT d m.2.2 = wM (ecT d) m from rfl, Qe (QK (by omega)), Ql, Qh (by omega)])
        (leB t.Q3 1 ++ (leB t.Q8 1 ++ leB (t.Q1.length : Int) 1)) (by simp [Qm])
      rw [if_neg (by omega), if_neg (by omega), if_neg (by omega), if_pos hk, Q25, p1, Q0, kbne (show t.Q3 ≠ 1 by omega), kbne (show t.Q3 ≠ 2 by omega), kbne (show t.Q3 ≠ 3 by omega), kbeq hk, Qb, Qb, Qb, Qf, p1, Q0, p1, Q0, Qe (QK (by simp [Qm])), Ql, Qe (QK (by simp [Qm])), Ql]
      exact lp
    · have hokx := k2 x (by rw [hx]; simp)
      have hb := Q6g d x hokx h2
      have ih := Q65 d x (by omega) hokx h2
      have hb0 : idx t.Q6 0 = some x := by rw [hx]; rfl
      rw [if_neg (by omega), if_neg (by omega), if_neg (by omega), if_neg (by omega), if_pos hk, Q25, p1, Q0, kbne (show t.Q3 ≠ 1 by omega), kbne (show t.Q3 ≠ 2 by omega), kbne (show t.Q3 ≠ 3 by omega), kbne (show t.Q3 ≠ 4 by omega), kbeq hk, Qb, Qb, Qb, Qb, Qf, p1, Q0, hb0, Q0, ih, Q0, Qe (QK (by rw [Qm]; omega)), Ql, Qe (QK (by rw [List.length_append, Qm, Qm]; omega)), Ql, hx]
      rfl
    · rw [if_neg (by omega), if_neg (by omega), if_neg (by omega), if_neg (by omega), if_neg (by omega), Q25, p1, Q0, kbne (show t.Q3 ≠ 1 by omega), kbne (show t.Q3 ≠ 2 by omega), kbne (show t.Q3 ≠ 3 by omega), kbne (show t.Q3 ≠ 4 by omega), kbne (show t.Q3 ≠ 5 by omega), Qb, Qb, Qb, Qb, Qb]
/-! revL -/
end Go.Ve.X
