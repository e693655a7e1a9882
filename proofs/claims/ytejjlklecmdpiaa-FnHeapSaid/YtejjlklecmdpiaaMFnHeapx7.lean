/- Laid by a program of this session (mend.py) out of the text that print.sh wrote for this claim: renamed, and mended where it fell in Lean. -/
import Derived.Test.YtejjlklecmdpiaaMFnHeapx0
import Derived.Test.YtejjlklecmdpiaaMFnHeapx4
import Derived.Test.YtejjlklecmdpiaaMFnHeapx6
namespace Go.Proofs.Ytejjlklecmdpiaa.PFnHeap
open Go.RowKit Go.Proofs.YtejjlklecmdpiaaW.PrintWords Go.Proofs.YtejjlklecmdpiaaW.PrintLast Go.Proofs.YtejjlklecmdpiaaW.PrintMore
attribute [local go_sem] max2_int min2_int max_two min_two max_three min_three max_four min_four   -- for this text's walks alone
set_option linter.unusedVariables false
set_option linter.unusedSimpArgs false

/-! ### impl_getBits: function 113 -/
def impl_getBits.l0 : Nat → ByteArray → Int → Int → Int → Option (Int)
  | 0, _, _, _, _ => none
  | k + 1, x0, x3, x6, x7 => if x7 < x6 then (if 0 ≤ x7 then (if x7 < (x0.size : Int) then (if 0 ≤ (wrap64 (8 * x7)) then (impl_getBits.l0 k x0 (Go.bits .or .u64 x3 (shl .u64 (IntKind.u64.wrap (bt x0 x7)) (wrap64 (8 * x7)))) x6 (wrap64 (x7 + 1))) else (none)) else (none)) else (none)) else (some x3)
def impl_getBits.f (k : Nat) (a0 : ByteArray) : Option (Int) := impl_getBits.l0 k a0 0 (a0.size : Int) 0
theorem impl_getBits.mono_l : ∀ k, (∀ y0 y1 y2 y3, LeO (impl_getBits.l0 k y0 y1 y2 y3) (impl_getBits.l0 (k + 1) y0 y1 y2 y3))
  | 0 => fun _ _ _ _ r h => by simp [impl_getBits.l0] at h
  | k + 1 => by
    have ih0 := impl_getBits.mono_l k
    · intro y0 y1 y2 y3
      unfold impl_getBits.l0
      repeat' first
      | (with_reducible exact ih0 _ _ _ _)
      | (with_reducible exact LeO.refl _)
      | (with_reducible exact LeO.none _)
      | (with_reducible refine LeO.ite ?_ ?_)
      | (with_reducible refine LeO.bind ?_ (fun _ => ?_))
      | exact ih0 _ _ _ _
      | exact LeO.none _
      | refine LeO.ite ?_ ?_
      | refine LeO.bind ?_ (fun _ => ?_)
theorem impl_getBits.mono : ∀ a0 k, LeO (impl_getBits.f k a0) (impl_getBits.f (k + 1) a0) := by
  intro a0 k
  have ih0 := impl_getBits.mono_l k
  unfold impl_getBits.f
  repeat' first
      | (with_reducible exact ih0 _ _ _ _)
      | (with_reducible exact LeO.refl _)
      | (with_reducible exact LeO.none _)
      | (with_reducible refine LeO.ite ?_ ?_)
      | (with_reducible refine LeO.bind ?_ (fun _ => ?_))
      | exact ih0 _ _ _ _
      | exact LeO.none _
      | refine LeO.ite ?_ ?_
      | refine LeO.bind ?_ (fun _ => ?_)
set_option maxHeartbeats 8000000 in
set_option maxRecDepth 100000 in
theorem impl_getBits.calls (k : Nat) (a0 : ByteArray) (r : Int) (w : World) (h : impl_getBits.f k a0 = some r) :
    Calls Try.prog 113 #[.string a0] w fun e w' => e = .returned (.int .u64 r) ∧ Drawn0 w w' := by
  have H : (impl_getBits.l0 k a0 0 (a0.size : Int) 0) = some r := h
  clear h
  have H' := Aside0.mk H
  clear H
  go_enter Try.func113, Try.ntmps113
  go_wp2
  go_loopg [3, 7] k (fun kq v3 v7 w' => ∃ (x3_1 : Int) (x7_1 : Int), v3 = .int .u64 x3_1 ∧ v7 = .int .i64 x7_1 ∧ Aside0 (impl_getBits.l0 kq a0 x3_1 (a0.size : Int) x7_1 = some r) ∧ Aside0 (kq ≤ k) ∧ Drawn0 w w')
  case atStart => exact ⟨(0), (0), (by first | rfl | (simp; done) | (simp [*]; done)), (by first | rfl | (simp; done) | (simp [*]; done)), H', ⟨Nat.le_refl _⟩, by repeat (first | exact Drawn0.refl _ | apply Drawn0.step)⟩
  case round =>
    clear H'
    try clear c1
    obtain ⟨x3_1, x7_1, rfl, rfl, HA, HK1, ⟨m1, rfl⟩⟩ := hrel
    cases gk with
    | zero => exact absurd HA.out (by simp [impl_getBits.l0])
    | succ k1 =>
      have H := HA.out
      clear HA
      simp only [impl_getBits.l0] at H
      by_cases c2 : x7_1 < (a0.size : Int)
      · rw [if_pos c2] at H
        have c2b0 : decide (x7_1 < (a0.size : Int)) = true := decide_eq_true c2
        clear c2
        by_cases c3 : 0 ≤ x7_1
        · rw [if_pos c3] at H
          have c3b0 : decide (0 ≤ x7_1) = true := decide_eq_true c3
          clear c3
          by_cases c4 : x7_1 < (a0.size : Int)
          · rw [if_pos c4] at H
            have c4b0 : decide (x7_1 < (a0.size : Int)) = true := decide_eq_true c4
            clear c4
            obtain ⟨ji6, hji6⟩ : ∃ j_ : Int, (wrap64 (8 * x7_1)) = j_ := ⟨_, rfl⟩
            replace H : (if 0 ≤ (ji6) then (impl_getBits.l0 k1 a0 (Go.bits .or .u64 x3_1 (shl .u64 (IntKind.u64.wrap (bt a0 x7_1)) (ji6))) (a0.size : Int) (wrap64 (x7_1 + 1))) else (none)) = some r := by first | (rw [hji6] at H; exact H) | (simp only [hji6] at H ⊢; exact H)
            have hji6w : (IntKind.i64.wrap (8 * x7_1)) = ji6 := (i64_w _).trans hji6
            by_cases c7 : 0 ≤ (ji6)
            · rw [if_pos c7] at H
              have c7b0 := eq_true c7
              have c7b1 : decide (0 ≤ (ji6)) = true := decide_eq_true c7
              clear c7
              obtain ⟨ji8, hji8⟩ : ∃ j_ : Int, (shl .u64 (IntKind.u64.wrap (bt a0 x7_1)) (ji6)) = j_ := ⟨_, rfl⟩
              replace H : (impl_getBits.l0 k1 a0 (Go.bits .or .u64 x3_1 (ji8)) (a0.size : Int) (wrap64 (x7_1 + 1))) = some r := by first | (rw [hji8] at H; exact H) | (simp only [hji8] at H ⊢; exact H)
              have hji8_ : (IntKind.u64.wrap ((IntKind.u64.wrap (bt a0 x7_1)) * 2 ^ min (ji6).toNat 64)) = ji8 := hji8
              have hji8z : (ji6) ≤ 64 → (IntKind.u64.wrap ((IntKind.u64.wrap (bt a0 x7_1)) * 2 ^ (ji6).toNat)) = ji8 := shl_small hji8
              have H' := Aside0.mk H
              clear H
              have p5 : 0 ≤ (x7_1 : Int) := of_decide_eq_true (by first | (with_reducible assumption) | assumption)
              have q5 : x7_1 < (a0.size : Int) := of_decide_eq_true (by first | (with_reducible assumption) | assumption)
              have hx5 := bt_at a0 x7_1
              replace p5 := eq_true p5
              replace q5 := eq_true q5
              go_wp2
              go_roundg k1
              case measure => have := HK1.out; omega
              case rel => exact ⟨(Go.bits .or .u64 x3_1 (ji8)), (wrap64 (x7_1 + 1)), (by first | rfl | (simp; done) | (simp only [← hji8] <;> (first | rfl | simp)) | (simp [*]; done)), (by first | rfl | (simp; done) | (simp [*]; done)), H', ⟨by have := HK1.out; omega⟩, by repeat (first | exact Drawn0.refl _ | apply Drawn0.step)⟩
            · rw [if_neg c7] at H
              exact absurd H (by simp)
          · rw [if_neg c4] at H
            exact absurd H (by simp)
        · rw [if_neg c3] at H
          exact absurd H (by simp)
      · rw [if_neg c2] at H
        have c2b0 : decide (x7_1 < (a0.size : Int)) = false := decide_eq_false c2
        clear c2
        obtain rfl := Option.some.inj H
        go_wp2
        go_ret
        exact ⟨by first | rfl | (simp; done) | (simp [*]; done), by repeat (first | exact Drawn0.refl _ | apply Drawn0.step)⟩

/-! ### impl_cut: function 124 -/
def impl_cut.f (a0 : ByteArray) (a1 : Int) (a2 : Int) : Option (ByteArray × Bool) := if a2 < 0 then (some ((⟨#[]⟩ : ByteArray), false)) else ((impl_within.f a1 0 (wrap64 ((a0.size : Int) - a2))).bind fun t292 => (if t292 = true then (if 0 ≤ a1 then (if a1 ≤ (wrap64 (a1 + a2)) then (if (wrap64 (a1 + a2)) ≤ (a0.size : Int) then (some (a0.extract (a1 : Int).toNat ((wrap64 (a1 + a2)) : Int).toNat, true)) else (none)) else (none)) else (none)) else (some ((⟨#[]⟩ : ByteArray), false))))
set_option maxHeartbeats 8000000 in
set_option maxRecDepth 100000 in
theorem impl_cut.calls (a0 : ByteArray) (a1 : Int) (a2 : Int) (r1 : ByteArray) (r2 : Bool) (w : World) (h : impl_cut.f a0 a1 a2 = some (r1, r2)) :
    Calls Try.prog 124 #[.string a0, .int .i64 a1, .int .i64 a2] w fun e w' => e = .returned (.tuple #[.string r1, .bool r2]) ∧ Drawn0 w w' := by
  have H : (if a2 < 0 then (some ((⟨#[]⟩ : ByteArray), false)) else ((impl_within.f a1 0 (wrap64 ((a0.size : Int) - a2))).bind fun t292 => (if t292 = true then (if 0 ≤ a1 then (if a1 ≤ (wrap64 (a1 + a2)) then (if (wrap64 (a1 + a2)) ≤ (a0.size : Int) then (some (a0.extract (a1 : Int).toNat ((wrap64 (a1 + a2)) : Int).toNat, true)) else (none)) else (none)) else (none)) else (some ((⟨#[]⟩ : ByteArray), false))))) = some (r1, r2) := h
  clear h
  by_cases c4 : a2 < 0
  · rw [if_pos c4] at H
    have c4b0 : decide (a2 < 0) = true := decide_eq_true c4
    clear c4
    simp only [Option.some.injEq, Prod.mk.injEq] at H
    obtain ⟨rfl, rfl⟩ := H
    go_enter Try.func124, Try.ntmps124
    go_wp2
    go_ret2
    exact ⟨by first | rfl | (simp; done) | (simp [*]; done), by repeat (first | exact Drawn0.refl _ | apply Drawn0.step)⟩
  · rw [if_neg c4] at H
    have c4b0 : decide (a2 < 0) = false := decide_eq_false c4
    clear c4
    replace H := Option.bind_eq_some_iff.mp H
    obtain ⟨t292, A50, H⟩ := H
    replace H : (if t292 = true then (if 0 ≤ a1 then (if a1 ≤ (wrap64 (a1 + a2)) then (if (wrap64 (a1 + a2)) ≤ (a0.size : Int) then (some (a0.extract (a1 : Int).toNat ((wrap64 (a1 + a2)) : Int).toNat, true)) else (none)) else (none)) else (none)) else (some ((⟨#[]⟩ : ByteArray), false))) = some (r1, r2) := H
    have A5 := Aside0.mk A50
    clear A50
    by_cases c6 : t292 = true
    · subst c6
      have H1 : (if 0 ≤ a1 then (if a1 ≤ (wrap64 (a1 + a2)) then (if (wrap64 (a1 + a2)) ≤ (a0.size : Int) then (some (a0.extract (a1 : Int).toNat ((wrap64 (a1 + a2)) : Int).toNat, true)) else (none)) else (none)) else (none)) = some (r1, r2) := by rw [if_pos rfl] at H; exact H
      clear H
      have H := H1
      clear H1
      by_cases c7 : 0 ≤ a1
      · rw [if_pos c7] at H
        have c7b0 := eq_true c7
        have c7b1 : decide (0 ≤ a1) = true := decide_eq_true c7
        clear c7
        by_cases c8 : a1 ≤ (wrap64 (a1 + a2))
        · rw [if_pos c8] at H
          have c8b0 := eq_true c8
          have c8b1 : decide (a1 ≤ (wrap64 (a1 + a2))) = true := decide_eq_true c8
          by_cases c9 : (wrap64 (a1 + a2)) ≤ (a0.size : Int)
          · rw [if_pos c9] at H
            have c9b0 := eq_true c9
            have c9b1 : decide ((wrap64 (a1 + a2)) ≤ (a0.size : Int)) = true := decide_eq_true c9
            simp only [Option.some.injEq, Prod.mk.injEq] at H
            obtain ⟨rfl, rfl⟩ := H
            go_enter Try.func124, Try.ntmps124
            go_wp2_with (first | (go_at_call 63; (with_reducible refine (impl_within.calls a1 0 (wrap64 ((a0.size : Int) - a2)) true _ A5.out).mono ?_); rintro e w' ⟨rfl, ⟨nd, rfl⟩⟩))
            go_ret2
            exact ⟨by first | rfl | (simp; done) | (simp [*]; done), by repeat (first | exact Drawn0.refl _ | apply Drawn0.step)⟩
          · rw [if_neg c9] at H
            exact absurd H (by simp)
        · rw [if_neg c8] at H
          exact absurd H (by simp)
      · rw [if_neg c7] at H
        exact absurd H (by simp)
    · replace c6 := Bool.eq_false_iff.mpr c6
      subst c6
      have H1 : (some ((⟨#[]⟩ : ByteArray), false)) = some (r1, r2) := by rw [if_neg (show ¬ (false = true) by decide)] at H; exact H
      clear H
      have H := H1
      clear H1
      simp only [Option.some.injEq, Prod.mk.injEq] at H
      obtain ⟨rfl, rfl⟩ := H
      go_enter Try.func124, Try.ntmps124
      go_wp2_with (first | (go_at_call 63; (with_reducible refine (impl_within.calls a1 0 (wrap64 ((a0.size : Int) - a2)) false _ A5.out).mono ?_); rintro e w' ⟨rfl, ⟨nd, rfl⟩⟩))
      go_ret2
      exact ⟨by first | rfl | (simp; done) | (simp [*]; done), by repeat (first | exact Drawn0.refl _ | apply Drawn0.step)⟩

/-- A state of type 103 at block g of W; what its slices lead to came in by w0. -/
def IsS103 (w0 W : World) (g : Nat) (f0 : ByteArray) (f1 : Bool) : Prop := W.heap[g]? = some (.cells #[.string f0, .bool f1] 103 (0, 0)) ∧ w0.heap.size ≤ g
theorem IsS103.grown {w0 W : World} {g : Nat} {f0 : ByteArray} {f1 : Bool} {W1 : World} {row : Option Nat} (h : IsS103 w0 W g f0 f1) (hw : W.grownBy W1 row) (hne : some g ≠ row) : IsS103 w0 W1 g f0 f1 := by
  obtain ⟨hb, hg⟩ := h
  exact ⟨blk_grown hb hw hne, hg⟩
theorem IsS103.own_neN {w0 W : World} {g : Nat} {f0 : ByteArray} {f1 : Bool} {α : Type} {d : Kd α} {e : Nat} {base : Nat} {ok : Nat → Prop} {v : Value} {xs : List α} (h : IsS103 w0 W g f0 f1) (ho : Kd.N d e W base ok v xs) (ht : e ≠ 103) : some g ≠ v.ownBlock := by
  obtain ⟨hb, hg⟩ := h
  exact Kd.N_ne ho hb ht
theorem IsS103.fresh {w0 W : World} {g : Nat} {f0 : ByteArray} {f1 : Bool} (h : IsS103 w0 W g f0 f1) : ∀ k, W.heap.size ≤ k → k ≠ g := by
  obtain ⟨hb, hg⟩ := h
  exact Kd.freshB hb
theorem IsS103.kept {w0 W : World} {g : Nat} {f0 : ByteArray} {f1 : Bool} {W1 : World} {S : Nat → Prop} (h : IsS103 w0 W g f0 f1) (hk : Kept W W1 S) (hne : ¬ S g) : IsS103 w0 W1 g f0 f1 := by
  obtain ⟨hb, hg⟩ := h
  exact ⟨blk_kept hb hk hne, hg⟩
theorem IsS103.below {w0 W : World} {g : Nat} {f0 : ByteArray} {f1 : Bool} {W1 : World} (h : IsS103 w0 W g f0 f1) (hw : Below W.heap.size W W1) : IsS103 w0 W1 g f0 f1 := h.grown (grown_of_below hw none) (by simp)
theorem IsS103.alloc {w0 W : World} {g : Nat} {f0 : ByteArray} {f1 : Bool} (h : IsS103 w0 W g f0 f1) (o : Obj) : IsS103 w0 (W.alloc o) g f0 f1 := h.below (below_alloc (Below.refl _ _) o)
theorem IsS103.drewN {w0 W : World} {g : Nat} {f0 : ByteArray} {f1 : Bool} (h : IsS103 w0 W g f0 f1) (m : Nat) : IsS103 w0 (W.drewN m) g f0 f1 := h
theorem IsS103.drew {w0 W : World} {g : Nat} {f0 : ByteArray} {f1 : Bool} (h : IsS103 w0 W g f0 f1) : IsS103 w0 W.drew g f0 f1 := h
theorem IsS103.at_ {w0 W : World} {g : Nat} {f0 : ByteArray} {f1 : Bool} {w' : World} {m : Nat} (hq : W.drewN m = w') (h : IsS103 w0 W g f0 f1) : IsS103 w0 w' g f0 f1 := by subst hq; exact IsS103.drewN h m
theorem IsS103.apart {w0 W : World} {g : Nat} {f0 : ByteArray} {f1 : Bool} {α : Type} {d : Kd α} {e : Nat} {base : Nat} {ok : Nat → Prop} {v : Value} {xs : List α} (h : IsS103 w0 W g f0 f1) (ho : d.R e W base ok v xs) (ht : ∀ q, q ∈ e :: d.E → q ≠ 103) : d.R e W base (fun k => ok k ∧ k ≠ g) v xs := by
  obtain ⟨hb, hg⟩ := h
  exact Kd.R_types ho hb ht
theorem IsS103.own_ne {w0 W : World} {g : Nat} {f0 : ByteArray} {f1 : Bool} {α : Type} {d : Kd α} {e : Nat} {base : Nat} {ok : Nat → Prop} {v : Value} {xs : List α} (h : IsS103 w0 W g f0 f1) (ho : d.R e W base ok v xs) (ht : e ≠ 103) : some g ≠ v.ownBlock := by
  obtain ⟨hb, hg⟩ := h
  exact Kd.R_ne ho hb ht
theorem IsS103.apartQ {w0 W : World} {g : Nat} {f0 : ByteArray} {f1 : Bool} {α : Type} {d : Kd α} {e : Nat} {base : Nat} {ok : Nat → Prop} {v : Value} {xs : List α} (h : IsS103 w0 W g f0 f1) (ho : d.Q e W base ok v xs) (ht : ∀ q, q ∈ e :: d.E → q ≠ 103) : d.Q e W base (fun k => ok k ∧ k ≠ g) v xs := by
  obtain ⟨hb, hg⟩ := h
  exact Kd.Q_types ho hb ht
theorem IsS103.own_neQ {w0 W : World} {g : Nat} {f0 : ByteArray} {f1 : Bool} {α : Type} {d : Kd α} {e : Nat} {base : Nat} {ok : Nat → Prop} {v : Value} {xs : List α} (h : IsS103 w0 W g f0 f1) (ho : d.Q e W base ok v xs) (ht : e ≠ 103) : some g ≠ v.ownBlock := by
  obtain ⟨hb, hg⟩ := h
  exact Kd.Q_ne ho hb ht
theorem IsS103.apartS {w0 W : World} {g : Nat} {f0 : ByteArray} {f1 : Bool} {α : Type} {d : Kd α} {e : Nat} {base : Nat} {ok : Nat → Prop} {v : Value} {xs : List α} (h : IsS103 w0 W g f0 f1) (ho : d.S e W base ok v xs) (ht : ∀ q, q ∈ e :: d.E → q ≠ 103) : d.S e W base (fun k => ok k ∧ k ≠ g) v xs := by
  obtain ⟨hb, hg⟩ := h
  exact Kd.S_types ho hb ht
theorem IsS103.own_neS {w0 W : World} {g : Nat} {f0 : ByteArray} {f1 : Bool} {α : Type} {d : Kd α} {e : Nat} {base : Nat} {ok : Nat → Prop} {v : Value} {xs : List α} (h : IsS103 w0 W g f0 f1) (ho : d.S e W base ok v xs) (ht : e ≠ 103) : some g ≠ v.ownBlock := by
  obtain ⟨hb, hg⟩ := h
  exact Kd.S_ne ho hb ht
theorem IsS103.lt {w0 W : World} {g : Nat} {f0 : ByteArray} {f1 : Bool} (h : IsS103 w0 W g f0 f1) : g < W.heap.size := by
  obtain ⟨hb, hg⟩ := h
  exact blk_lt hb
theorem IsS103.ge {w0 W : World} {g : Nat} {f0 : ByteArray} {f1 : Bool} (h : IsS103 w0 W g f0 f1) : w0.heap.size ≤ g := by
  obtain ⟨hb, hg⟩ := h
  exact hg
theorem IsS103.ne_blk {w0 W : World} {g : Nat} {f0 : ByteArray} {f1 : Bool} {a : Nat} {cs : Array Value} {t : TypeId} {fr : Nat × Nat} (h : IsS103 w0 W g f0 f1) (hb2 : W.heap[a]? = some (.cells cs t fr)) (ht : t ≠ 103) : g ≠ a := by
  obtain ⟨hb, hg⟩ := h
  rintro rfl
  rw [hb] at hb2
  injection hb2 with hb2
  injection hb2 with _ ht2
  exact ht ht2.symm
theorem IsS103.far {w0 W : World} {g : Nat} {f0 : ByteArray} {f1 : Bool} {p : Addr} (h : IsS103 w0 W g f0 f1) (hne : g ≠ p.block) (u : Value) : IsS103 w0 (W.setCell p u) g f0 f1 := by
  obtain ⟨hb, hg⟩ := h
  exact ⟨blk_far hb hne u, hg⟩
theorem cellS103_0 {W : World} {g : Nat} {f0 : ByteArray} {f1 : Bool} (h : W.heap[g]? = some (.cells #[.string f0, .bool f1] 103 (0, 0))) : W.cell? ⟨g, 0, none⟩ = some (.string f0) := (blk_cell h 0).trans rfl
theorem IsS103.set_0 {w0 W : World} {g : Nat} {f0 : ByteArray} {f1 : Bool} (h : IsS103 w0 W g f0 f1) (x : ByteArray) : IsS103 w0 (W.setCell ⟨g, 0, none⟩ (.string x)) g x f1 := by
  obtain ⟨hb, hg⟩ := h
  exact ⟨by simpa using blk_set hb 0 (.string x), hg⟩
theorem cellS103_1 {W : World} {g : Nat} {f0 : ByteArray} {f1 : Bool} (h : W.heap[g]? = some (.cells #[.string f0, .bool f1] 103 (0, 0))) : W.cell? ⟨g, 1, none⟩ = some (.bool f1) := (blk_cell h 1).trans rfl
theorem IsS103.set_1 {w0 W : World} {g : Nat} {f0 : ByteArray} {f1 : Bool} (h : IsS103 w0 W g f0 f1) (x : Bool) : IsS103 w0 (W.setCell ⟨g, 1, none⟩ (.bool x)) g f0 x := by
  obtain ⟨hb, hg⟩ := h
  exact ⟨by simpa using blk_set hb 1 (.bool x), hg⟩
theorem IsS103.new (w0 W : World) (f0 : ByteArray) (f1 : Bool) (hB : Below w0.heap.size w0 W) : IsS103 w0 (W.alloc (.cells #[.string f0, .bool f1] 103)) W.heap.size f0 f1 := ⟨by simpa using heap_alloc_new W _, hB.size⟩

/-! ### impl_decoder_take: function 114 -/
def impl_decoder_take.f (s0_0 : ByteArray) (s0_1 : Bool) (a1 : Int) : Option (ByteArray × ByteArray × Bool) := (impl_cut.f s0_0 0 a1).bind fun bt293 => (if bt293.2 = true then (if 0 ≤ a1 then (if a1 ≤ (s0_0.size : Int) then (some (bt293.1, s0_0.extract (a1 : Int).toNat s0_0.size, s0_1)) else (none)) else (none)) else (some ((⟨#[]⟩ : ByteArray), s0_0, true)))
set_option maxHeartbeats 8000000 in
set_option maxRecDepth 100000 in
theorem impl_decoder_take.calls (g : Nat) (s0_0 : ByteArray) (s0_1 : Bool) (a1 : Int) (r1 : ByteArray) (r2 : ByteArray) (r3 : Bool) (w0 w : World) (hI : IsS103 w0 w g s0_0 s0_1) (hB : Below w0.heap.size w0 w) (h : impl_decoder_take.f s0_0 s0_1 a1 = some (r1, r2, r3)) :
    Calls Try.prog 114 #[.pointer (some ⟨g, 0, none⟩), .int .i64 a1] w fun e w' => e = .returned (.string r1) ∧ IsS103 w0 w' g r2 r3 ∧ Below w0.heap.size w0 w' ∧ KeepBut w w' g none := by
  have HI0 := Aside0.mk hI
  have HK := Aside0.mk (KeepBut.refl w g none)
  have HL := Aside0.mk hB.size
  clear hI
  have HW0 := Aside0.mk hB.size
  have HB := Aside0.mk hB
  clear hB
  have H : ((impl_cut.f s0_0 0 a1).bind fun bt293 => (if bt293.2 = true then (if 0 ≤ a1 then (if a1 ≤ (s0_0.size : Int) then (some (bt293.1, s0_0.extract (a1 : Int).toNat s0_0.size, s0_1)) else (none)) else (none)) else (some ((⟨#[]⟩ : ByteArray), s0_0, true)))) = some (r1, r2, r3) := h
  clear h
  replace H := Option.bind_eq_some_iff.mp H
  obtain ⟨⟨t293, t294⟩, A30, H⟩ := H
  replace H : (if t294 = true then (if 0 ≤ a1 then (if a1 ≤ (s0_0.size : Int) then (some (t293, s0_0.extract (a1 : Int).toNat s0_0.size, s0_1)) else (none)) else (none)) else (some ((⟨#[]⟩ : ByteArray), s0_0, true))) = some (r1, r2, r3) := H
  have A3 := Aside0.mk A30
  clear A30
  by_cases c4 : t294 = true
  · subst c4
    have H1 : (if 0 ≤ a1 then (if a1 ≤ (s0_0.size : Int) then (some (t293, s0_0.extract (a1 : Int).toNat s0_0.size, s0_1)) else (none)) else (none)) = some (r1, r2, r3) := by rw [if_pos rfl] at H; exact H
    clear H
    have H := H1
    clear H1
    by_cases c5 : 0 ≤ a1
    · rw [if_pos c5] at H
      have c5b0 := eq_true c5
      have c5b1 : decide (0 ≤ a1) = true := decide_eq_true c5
      clear c5
      by_cases c6 : a1 ≤ (s0_0.size : Int)
      · rw [if_pos c6] at H
        have c6b0 := eq_true c6
        have c6b1 : decide (a1 ≤ (s0_0.size : Int)) = true := decide_eq_true c6
        clear c6
        simp only [Option.some.injEq, Prod.mk.injEq] at H
        obtain ⟨rfl, rfl, rfl⟩ := H
        obtain ⟨HGz7, hgz7⟩ := HI0.out
        have hcz7_0 := cellS103_0 HGz7
        have hcz7_1 := cellS103_1 HGz7
        have hfz7_0 := blk_frozen HGz7 0
        have hfz7_1 := blk_frozen HGz7 1
        clear HGz7 hgz7
        go_enter Try.func114, Try.ntmps114
        go_wp2_with (first | ((with_reducible refine gate_callee (f := 124) rfl ?_); refine goesL_ (some 13) rfl rfl Try.func124 (by kernel_rfl) rfl #[.string s0_0, .int .i64 0, .int .i64 a1] rfl (by (try simp only [List.map_toArray, List.map_cons, List.map_nil]); first | done | rfl | (simp only [List.length_drop, List.length_take]; rfl)) ?_; (with_reducible refine (impl_cut.calls s0_0 0 a1 t293 true _ A3.out).mono ?_); rintro e w' ⟨rfl, ⟨nd, rfl⟩⟩; refine ⟨_, rfl, ?_⟩))
        go_ret
        exact ⟨by first | rfl | (simp [errW_none, errW_some] <;> rfl) | (simp [*, errW_none, errW_some] <;> rfl), by repeat (first | (with_reducible first | exact HI0.out | apply IsS103.alloc | apply IsS103.drewN | apply IsS103.drew | apply IsS103.set_0 | apply IsS103.set_1) | exact HI0.out), by repeat (first | (with_reducible first | exact HB.out | apply below_alloc | apply pw_below_drewN | apply below_drew1 | refine below_set ?_ (IsS103.ge HI0.out)) | exact HB.out), by repeat (first | (with_reducible first | exact HK.out | apply KeepBut.set_ | apply keep_drewN | apply keep_drew | apply keep_alloc) | exact HK.out)⟩
      · rw [if_neg c6] at H
        exact absurd H (by simp)
    · rw [if_neg c5] at H
      exact absurd H (by simp)
  · replace c4 := Bool.eq_false_iff.mpr c4
    subst c4
    have H1 : (some ((⟨#[]⟩ : ByteArray), s0_0, true)) = some (r1, r2, r3) := by rw [if_neg (show ¬ (false = true) by decide)] at H; exact H
    clear H
    have H := H1
    clear H1
    simp only [Option.some.injEq, Prod.mk.injEq] at H
    obtain ⟨rfl, rfl, rfl⟩ := H
    obtain ⟨HGz8, hgz8⟩ := HI0.out
    have hcz8_0 := cellS103_0 HGz8
    have hcz8_1 := cellS103_1 HGz8
    have hfz8_0 := blk_frozen HGz8 0
    have hfz8_1 := blk_frozen HGz8 1
    clear HGz8 hgz8
    go_enter Try.func114, Try.ntmps114
    go_wp2_with (first | ((with_reducible refine gate_callee (f := 124) rfl ?_); refine goesL_ (some 13) rfl rfl Try.func124 (by kernel_rfl) rfl #[.string s0_0, .int .i64 0, .int .i64 a1] rfl (by (try simp only [List.map_toArray, List.map_cons, List.map_nil]); first | done | rfl | (simp only [List.length_drop, List.length_take]; rfl)) ?_; (with_reducible refine (impl_cut.calls s0_0 0 a1 t293 false _ A3.out).mono ?_); rintro e w' ⟨rfl, ⟨nd, rfl⟩⟩; refine ⟨_, rfl, ?_⟩))
    go_ret
    exact ⟨by first | rfl | (simp [errW_none, errW_some] <;> rfl) | (simp [*, errW_none, errW_some] <;> rfl), by repeat (first | (with_reducible first | exact HI0.out | apply IsS103.alloc | apply IsS103.drewN | apply IsS103.drew | apply IsS103.set_0 | apply IsS103.set_1) | exact HI0.out), by repeat (first | (with_reducible first | exact HB.out | apply below_alloc | apply pw_below_drewN | apply below_drew1 | refine below_set ?_ (IsS103.ge HI0.out)) | exact HB.out), by repeat (first | (with_reducible first | exact HK.out | apply KeepBut.set_ | apply keep_drewN | apply keep_drew | apply keep_alloc) | exact HK.out)⟩

/-! ### impl_decoder_number: function 72 -/
def impl_decoder_number.f (k : Nat) (s0_0 : ByteArray) (s0_1 : Bool) (a1 : Int) : Option (Int × ByteArray × Bool) := (impl_decoder_take.f s0_0 s0_1 a1).bind fun bt295 => ((impl_getBits.f k bt295.1).bind fun t298 => (some (wrap64 (t298), bt295.2.1, bt295.2.2)))
theorem impl_decoder_number.mono : ∀ a0 a1 a2 k, LeO (impl_decoder_number.f k a0 a1 a2) (impl_decoder_number.f (k + 1) a0 a1 a2) := by
  intro a0 a1 a2 k
  unfold impl_decoder_number.f
  repeat' first
      | (with_reducible exact impl_getBits.mono _ _)
      | (with_reducible exact LeO.refl _)
      | (with_reducible exact LeO.none _)
      | (with_reducible refine LeO.ite ?_ ?_)
      | (with_reducible refine LeO.bind ?_ (fun _ => ?_))
      | exact impl_getBits.mono _ _
      | exact LeO.none _
      | refine LeO.ite ?_ ?_
      | refine LeO.bind ?_ (fun _ => ?_)
set_option maxHeartbeats 8000000 in
set_option maxRecDepth 100000 in
theorem impl_decoder_number.calls (k : Nat) (g : Nat) (s0_0 : ByteArray) (s0_1 : Bool) (a1 : Int) (r1 : Int) (r2 : ByteArray) (r3 : Bool) (w0 w : World) (hI : IsS103 w0 w g s0_0 s0_1) (hB : Below w0.heap.size w0 w) (h : impl_decoder_number.f k s0_0 s0_1 a1 = some (r1, r2, r3)) :
    Calls Try.prog 72 #[.pointer (some ⟨g, 0, none⟩), .int .i64 a1] w fun e w' => e = .returned (.int .i64 r1) ∧ IsS103 w0 w' g r2 r3 ∧ Below w0.heap.size w0 w' ∧ KeepBut w w' g none := by
  have HI0 := Aside0.mk hI
  have HK := Aside0.mk (KeepBut.refl w g none)
  have HL := Aside0.mk hB.size
  clear hI
  have HW0 := Aside0.mk hB.size
  have HB := Aside0.mk hB
  clear hB
  have H : ((impl_decoder_take.f s0_0 s0_1 a1).bind fun bt295 => ((impl_getBits.f k bt295.1).bind fun t298 => (some (wrap64 (t298), bt295.2.1, bt295.2.2)))) = some (r1, r2, r3) := h
  clear h
  replace H := Option.bind_eq_some_iff.mp H
  obtain ⟨⟨t295, t296, t297⟩, A30, H⟩ := H
  replace H : ((impl_getBits.f k t295).bind fun t298 => (some (wrap64 (t298), t296, t297))) = some (r1, r2, r3) := H
  have A3 := Aside0.mk A30
  clear A30
  replace H := Option.bind_eq_some_iff.mp H
  obtain ⟨t298, A40, H⟩ := H
  replace H : (some (wrap64 (t298), t296, t297)) = some (r1, r2, r3) := H
  have A4 := Aside0.mk A40
  clear A40
  simp only [Option.some.injEq, Prod.mk.injEq] at H
  obtain ⟨rfl, rfl, rfl⟩ := H
  go_enter Try.func72, Try.ntmps72
  go_wp2_with (first | ((with_reducible refine gate_callee (f := 114) rfl ?_); refine goesL_ (some 7) rfl rfl Try.func114 (by kernel_rfl) rfl #[.pointer (some ⟨g, 0, none⟩), .int .i64 a1] rfl (by (try simp only [List.map_toArray, List.map_cons, List.map_nil]); first | done | rfl | (simp only [List.length_drop, List.length_take]; rfl)) ?_; (with_reducible refine (impl_decoder_take.calls g s0_0 s0_1 a1 t295 t296 t297 w0 _ ?side1 ?side2 A3.out).mono ?_); (case side1 => repeat (first | (with_reducible first | exact HI0.out | apply IsS103.alloc | apply IsS103.drewN | apply IsS103.drew | apply IsS103.set_0 | apply IsS103.set_1) | exact HI0.out)); (case side2 => repeat (first | (with_reducible first | exact HB.out | apply below_alloc | apply pw_below_drewN | apply below_drew1 | refine below_set ?_ (IsS103.ge HI0.out)) | exact HB.out)); rintro e w5 ⟨rfl, hi, hb, hk⟩; refine ⟨_, rfl, ?_⟩; have n0_ := Aside0.mk (KeepBut.trans (by repeat (first | (with_reducible first | exact HK.out | apply KeepBut.set_ | apply keep_drewN | apply keep_drew | apply keep_alloc) | exact HK.out)) hk (.inl rfl)); have n1_ := Aside0.mk (hb); have n2_ := Aside0.mk (hi); clear HK; clear HB; clear HI0; have HK := n0_; have HB := n1_; have HI0 := n2_; clear n0_ n1_ n2_; (try clear hb); (try clear hb2); (try clear hk); (try clear hi)) | ((with_reducible refine gate_callee (f := 113) rfl ?_); refine goesL_ (some 8) rfl rfl Try.func113 (by kernel_rfl) rfl #[.string t295] rfl (by (try simp only [List.map_toArray, List.map_cons, List.map_nil]); first | done | rfl | (simp only [List.length_drop, List.length_take]; rfl)) ?_; (with_reducible refine (impl_getBits.calls k t295 t298 _ A4.out).mono ?_); rintro e w' ⟨rfl, ⟨nd, rfl⟩⟩; refine ⟨_, rfl, ?_⟩))
  go_ret
  exact ⟨by first | rfl | (simp [errW_none, errW_some] <;> rfl) | (simp [*, errW_none, errW_some] <;> rfl), by repeat (first | (with_reducible first | exact HI0.out | apply IsS103.alloc | apply IsS103.drewN | apply IsS103.drew | apply IsS103.set_0 | apply IsS103.set_1) | exact HI0.out), by repeat (first | (with_reducible first | exact HB.out | apply below_alloc | apply pw_below_drewN | apply below_drew1 | refine below_set ?_ (IsS103.ge HI0.out)) | exact HB.out), by repeat (first | (with_reducible first | exact HK.out | apply KeepBut.set_ | apply keep_drewN | apply keep_drew | apply keep_alloc) | exact HK.out)⟩

/-! ### impl_decoder_byte: function 87 -/
def impl_decoder_byte.f (k : Nat) (s0_0 : ByteArray) (s0_1 : Bool) : Option (Int × ByteArray × Bool) := (impl_decoder_number.f k s0_0 s0_1 1).bind fun bt299 => (some (bt299.1, bt299.2.1, bt299.2.2))
theorem impl_decoder_byte.mono : ∀ a0 a1 k, LeO (impl_decoder_byte.f k a0 a1) (impl_decoder_byte.f (k + 1) a0 a1) := by
  intro a0 a1 k
  unfold impl_decoder_byte.f
  repeat' first
      | (with_reducible exact impl_decoder_number.mono _ _ _ _)
      | (with_reducible exact LeO.refl _)
      | (with_reducible exact LeO.none _)
      | (with_reducible refine LeO.ite ?_ ?_)
      | (with_reducible refine LeO.bind ?_ (fun _ => ?_))
      | exact impl_decoder_number.mono _ _ _ _
      | exact LeO.none _
      | refine LeO.ite ?_ ?_
      | refine LeO.bind ?_ (fun _ => ?_)
set_option maxHeartbeats 8000000 in
set_option maxRecDepth 100000 in
theorem impl_decoder_byte.calls (k : Nat) (g : Nat) (s0_0 : ByteArray) (s0_1 : Bool) (r1 : Int) (r2 : ByteArray) (r3 : Bool) (w0 w : World) (hI : IsS103 w0 w g s0_0 s0_1) (hB : Below w0.heap.size w0 w) (h : impl_decoder_byte.f k s0_0 s0_1 = some (r1, r2, r3)) :
    Calls Try.prog 87 #[.pointer (some ⟨g, 0, none⟩)] w fun e w' => e = .returned (.int .i64 r1) ∧ IsS103 w0 w' g r2 r3 ∧ Below w0.heap.size w0 w' ∧ KeepBut w w' g none := by
  have HI0 := Aside0.mk hI
  have HK := Aside0.mk (KeepBut.refl w g none)
  have HL := Aside0.mk hB.size
  clear hI
  have HW0 := Aside0.mk hB.size
  have HB := Aside0.mk hB
  clear hB
  have H : ((impl_decoder_number.f k s0_0 s0_1 1).bind fun bt299 => (some (bt299.1, bt299.2.1, bt299.2.2))) = some (r1, r2, r3) := h
  clear h
  replace H := Option.bind_eq_some_iff.mp H
  obtain ⟨⟨t299, t300, t301⟩, A20, H⟩ := H
  replace H : (some (t299, t300, t301)) = some (r1, r2, r3) := H
  have A2 := Aside0.mk A20
  clear A20
  simp only [Option.some.injEq, Prod.mk.injEq] at H
  obtain ⟨rfl, rfl, rfl⟩ := H
  go_enter Try.func87, Try.ntmps87
  go_wp2_with (first | ((with_reducible refine gate_callee (f := 72) rfl ?_); refine goesL_ (some 4) rfl rfl Try.func72 (by kernel_rfl) rfl #[.pointer (some ⟨g, 0, none⟩), .int .i64 1] rfl (by (try simp only [List.map_toArray, List.map_cons, List.map_nil]); first | done | rfl | (simp only [List.length_drop, List.length_take]; rfl)) ?_; (with_reducible refine (impl_decoder_number.calls k g s0_0 s0_1 1 t299 t300 t301 w0 _ ?side1 ?side2 A2.out).mono ?_); (case side1 => repeat (first | (with_reducible first | exact HI0.out | apply IsS103.alloc | apply IsS103.drewN | apply IsS103.drew | apply IsS103.set_0 | apply IsS103.set_1) | exact HI0.out)); (case side2 => repeat (first | (with_reducible first | exact HB.out | apply below_alloc | apply pw_below_drewN | apply below_drew1 | refine below_set ?_ (IsS103.ge HI0.out)) | exact HB.out)); rintro e w3 ⟨rfl, hi, hb, hk⟩; refine ⟨_, rfl, ?_⟩; have n0_ := Aside0.mk (KeepBut.trans (by repeat (first | (with_reducible first | exact HK.out | apply KeepBut.set_ | apply keep_drewN | apply keep_drew | apply keep_alloc) | exact HK.out)) hk (.inl rfl)); have n1_ := Aside0.mk (hb); have n2_ := Aside0.mk (hi); clear HK; clear HB; clear HI0; have HK := n0_; have HB := n1_; have HI0 := n2_; clear n0_ n1_ n2_; (try clear hb); (try clear hb2); (try clear hk); (try clear hi)))
  go_ret
  exact ⟨by first | rfl | (simp [errW_none, errW_some] <;> rfl) | (simp [*, errW_none, errW_some] <;> rfl), by repeat (first | (with_reducible first | exact HI0.out | apply IsS103.alloc | apply IsS103.drewN | apply IsS103.drew | apply IsS103.set_0 | apply IsS103.set_1) | exact HI0.out), by repeat (first | (with_reducible first | exact HB.out | apply below_alloc | apply pw_below_drewN | apply below_drew1 | refine below_set ?_ (IsS103.ge HI0.out)) | exact HB.out), by repeat (first | (with_reducible first | exact HK.out | apply KeepBut.set_ | apply keep_drewN | apply keep_drew | apply keep_alloc) | exact HK.out)⟩

/-! ### impl_decoder_name: function 88 -/
def impl_decoder_name.f (k : Nat) (s0_0 : ByteArray) (s0_1 : Bool) : Option (ByteArray × ByteArray × Bool) := (impl_decoder_byte.f k s0_0 s0_1).bind fun bt302 => ((impl_decoder_take.f bt302.2.1 bt302.2.2 bt302.1).bind fun bt305 => (some (bt305.1, bt305.2.1, bt305.2.2)))
theorem impl_decoder_name.mono : ∀ a0 a1 k, LeO (impl_decoder_name.f k a0 a1) (impl_decoder_name.f (k + 1) a0 a1) := by
  intro a0 a1 k
  unfold impl_decoder_name.f
  repeat' first
      | (with_reducible exact impl_decoder_byte.mono _ _ _)
      | (with_reducible exact LeO.refl _)
      | (with_reducible exact LeO.none _)
      | (with_reducible refine LeO.ite ?_ ?_)
      | (with_reducible refine LeO.bind ?_ (fun _ => ?_))
      | exact impl_decoder_byte.mono _ _ _
      | exact LeO.none _
      | refine LeO.ite ?_ ?_
      | refine LeO.bind ?_ (fun _ => ?_)
set_option maxHeartbeats 8000000 in
set_option maxRecDepth 100000 in
theorem impl_decoder_name.calls (k : Nat) (g : Nat) (s0_0 : ByteArray) (s0_1 : Bool) (r1 : ByteArray) (r2 : ByteArray) (r3 : Bool) (w0 w : World) (hI : IsS103 w0 w g s0_0 s0_1) (hB : Below w0.heap.size w0 w) (h : impl_decoder_name.f k s0_0 s0_1 = some (r1, r2, r3)) :
    Calls Try.prog 88 #[.pointer (some ⟨g, 0, none⟩)] w fun e w' => e = .returned (.string r1) ∧ IsS103 w0 w' g r2 r3 ∧ Below w0.heap.size w0 w' ∧ KeepBut w w' g none := by
  have HI0 := Aside0.mk hI
  have HK := Aside0.mk (KeepBut.refl w g none)
  have HL := Aside0.mk hB.size
  clear hI
  have HW0 := Aside0.mk hB.size
  have HB := Aside0.mk hB
  clear hB
  have H : ((impl_decoder_byte.f k s0_0 s0_1).bind fun bt302 => ((impl_decoder_take.f bt302.2.1 bt302.2.2 bt302.1).bind fun bt305 => (some (bt305.1, bt305.2.1, bt305.2.2)))) = some (r1, r2, r3) := h
  clear h
  replace H := Option.bind_eq_some_iff.mp H
  obtain ⟨⟨t302, t303, t304⟩, A20, H⟩ := H
  replace H : ((impl_decoder_take.f t303 t304 t302).bind fun bt305 => (some (bt305.1, bt305.2.1, bt305.2.2))) = some (r1, r2, r3) := H
  have A2 := Aside0.mk A20
  clear A20
  replace H := Option.bind_eq_some_iff.mp H
  obtain ⟨⟨t305, t306, t307⟩, A30, H⟩ := H
  replace H : (some (t305, t306, t307)) = some (r1, r2, r3) := H
  have A3 := Aside0.mk A30
  clear A30
  simp only [Option.some.injEq, Prod.mk.injEq] at H
  obtain ⟨rfl, rfl, rfl⟩ := H
  go_enter Try.func88, Try.ntmps88
  go_wp2_with (first | ((with_reducible refine gate_callee (f := 87) rfl ?_); refine goesL_ (some 5) rfl rfl Try.func87 (by kernel_rfl) rfl #[.pointer (some ⟨g, 0, none⟩)] rfl (by (try simp only [List.map_toArray, List.map_cons, List.map_nil]); first | done | rfl | (simp only [List.length_drop, List.length_take]; rfl)) ?_; (with_reducible refine (impl_decoder_byte.calls k g s0_0 s0_1 t302 t303 t304 w0 _ ?side1 ?side2 A2.out).mono ?_); (case side1 => repeat (first | (with_reducible first | exact HI0.out | apply IsS103.alloc | apply IsS103.drewN | apply IsS103.drew | apply IsS103.set_0 | apply IsS103.set_1) | exact HI0.out)); (case side2 => repeat (first | (with_reducible first | exact HB.out | apply below_alloc | apply pw_below_drewN | apply below_drew1 | refine below_set ?_ (IsS103.ge HI0.out)) | exact HB.out)); rintro e w4 ⟨rfl, hi, hb, hk⟩; refine ⟨_, rfl, ?_⟩; have n0_ := Aside0.mk (KeepBut.trans (by repeat (first | (with_reducible first | exact HK.out | apply KeepBut.set_ | apply keep_drewN | apply keep_drew | apply keep_alloc) | exact HK.out)) hk (.inl rfl)); have n1_ := Aside0.mk (hb); have n2_ := Aside0.mk (hi); clear HK; clear HB; clear HI0; have HK := n0_; have HB := n1_; have HI0 := n2_; clear n0_ n1_ n2_; (try clear hb); (try clear hb2); (try clear hk); (try clear hi)) | ((with_reducible refine gate_callee (f := 114) rfl ?_); refine goesL_ (some 6) rfl rfl Try.func114 (by kernel_rfl) rfl #[.pointer (some ⟨g, 0, none⟩), .int .i64 t302] rfl (by (try simp only [List.map_toArray, List.map_cons, List.map_nil]); first | done | rfl | (simp only [List.length_drop, List.length_take]; rfl)) ?_; (with_reducible refine (impl_decoder_take.calls g t303 t304 t302 t305 t306 t307 w0 _ ?side1 ?side2 A3.out).mono ?_); (case side1 => repeat (first | (with_reducible first | exact HI0.out | apply IsS103.alloc | apply IsS103.drewN | apply IsS103.drew | apply IsS103.set_0 | apply IsS103.set_1) | exact HI0.out)); (case side2 => repeat (first | (with_reducible first | exact HB.out | apply below_alloc | apply pw_below_drewN | apply below_drew1 | refine below_set ?_ (IsS103.ge HI0.out)) | exact HB.out)); rintro e w5 ⟨rfl, hi, hb, hk⟩; refine ⟨_, rfl, ?_⟩; have n0_ := Aside0.mk (KeepBut.trans (by repeat (first | (with_reducible first | exact HK.out | apply KeepBut.set_ | apply keep_drewN | apply keep_drew | apply keep_alloc) | exact HK.out)) hk (.inl rfl)); have n1_ := Aside0.mk (hb); have n2_ := Aside0.mk (hi); clear HK; clear HB; clear HI0; have HK := n0_; have HB := n1_; have HI0 := n2_; clear n0_ n1_ n2_; (try clear hb); (try clear hb2); (try clear hk); (try clear hi)))
  go_ret
  exact ⟨by first | rfl | (simp [errW_none, errW_some] <;> rfl) | (simp [*, errW_none, errW_some] <;> rfl), by repeat (first | (with_reducible first | exact HI0.out | apply IsS103.alloc | apply IsS103.drewN | apply IsS103.drew | apply IsS103.set_0 | apply IsS103.set_1) | exact HI0.out), by repeat (first | (with_reducible first | exact HB.out | apply below_alloc | apply pw_below_drewN | apply below_drew1 | refine below_set ?_ (IsS103.ge HI0.out)) | exact HB.out), by repeat (first | (with_reducible first | exact HK.out | apply KeepBut.set_ | apply keep_drewN | apply keep_drew | apply keep_alloc) | exact HK.out)⟩

/-! ### impl_DecodeHeap: function 32 -/
def impl_DecodeHeap.l0 : Nat → Int → ByteArray → Bool → List ByteArray → Option (List ByteArray × Bool)
  | 0, _, _, _, _ => none
  | k + 1, x6, x310000, x310001, x311000 => if x6 > 0 then (if x310001 = true then (some (([] : List ByteArray), false)) else ((impl_decoder_name.f k x310000 x310001).bind fun bt314 => (if x311000.length < 8796093022208 then (impl_DecodeHeap.l0 k (wrap64 (x6 - 1)) bt314.2.1 bt314.2.2 (x311000 ++ [bt314.1])) else (none)))) else (if x310001 = true then (some (([] : List ByteArray), false)) else (if x310000.toList = ([] : List UInt8) then ((impl_ValidHeap.f k x311000).bind fun t320 => (if t320 = true then (some (x311000, true)) else (some (([] : List ByteArray), false)))) else (some (([] : List ByteArray), false))))
def impl_DecodeHeap.f (k : Nat) (a0 : ByteArray) : Option (List ByteArray × Bool) := (impl_decoder_byte.f k a0 false).bind fun bt311 => (impl_DecodeHeap.l0 k bt311.1 bt311.2.1 bt311.2.2 ([] : List ByteArray))
theorem impl_DecodeHeap.mono_l : ∀ k, (∀ y0 y1 y2 y3, LeO (impl_DecodeHeap.l0 k y0 y1 y2 y3) (impl_DecodeHeap.l0 (k + 1) y0 y1 y2 y3))
  | 0 => fun _ _ _ _ r h => by simp [impl_DecodeHeap.l0] at h
  | k + 1 => by
    have ih0 := impl_DecodeHeap.mono_l k
    · intro y0 y1 y2 y3
      unfold impl_DecodeHeap.l0
      repeat' first
      | (with_reducible exact ih0 _ _ _ _)
      | (with_reducible exact impl_ValidHeap.mono _ _)
      | (with_reducible exact impl_decoder_byte.mono _ _ _)
      | (with_reducible exact impl_decoder_name.mono _ _ _)
      | (with_reducible exact LeO.refl _)
      | (with_reducible exact LeO.none _)
      | (with_reducible refine LeO.ite ?_ ?_)
      | (with_reducible refine LeO.bind ?_ (fun _ => ?_))
      | exact ih0 _ _ _ _
      | exact impl_ValidHeap.mono _ _
      | exact impl_decoder_byte.mono _ _ _
      | exact impl_decoder_name.mono _ _ _
      | exact LeO.none _
      | refine LeO.ite ?_ ?_
      | refine LeO.bind ?_ (fun _ => ?_)
theorem impl_DecodeHeap.mono : ∀ a0 k, LeO (impl_DecodeHeap.f k a0) (impl_DecodeHeap.f (k + 1) a0) := by
  intro a0 k
  have ih0 := impl_DecodeHeap.mono_l k
  unfold impl_DecodeHeap.f
  repeat' first
      | (with_reducible exact ih0 _ _ _ _)
      | (with_reducible exact impl_ValidHeap.mono _ _)
      | (with_reducible exact impl_decoder_byte.mono _ _ _)
      | (with_reducible exact impl_decoder_name.mono _ _ _)
      | (with_reducible exact LeO.refl _)
      | (with_reducible exact LeO.none _)
      | (with_reducible refine LeO.ite ?_ ?_)
      | (with_reducible refine LeO.bind ?_ (fun _ => ?_))
      | exact ih0 _ _ _ _
      | exact impl_ValidHeap.mono _ _
      | exact impl_decoder_byte.mono _ _ _
      | exact impl_decoder_name.mono _ _ _
      | exact LeO.none _
      | refine LeO.ite ?_ ?_
      | refine LeO.bind ?_ (fun _ => ?_)
def impl_DecodeHeap.T6 : Bool × List (List Nat × List Nat) := (true, [([], []), ([0], [0]), ([], []), ([2], [2]), ([3], [3]), ([1, 4, 3], [1, 4]), ([0, 1, 2, 3, 4, 5], []), ([6, 5, 5, 0, 1, 2, 3, 4, 5], [5, 6])])
def impl_DecodeHeap.B6 : List Nat := [0, 1, 0, 4, 12, 31, 63, 127]
theorem impl_DecodeHeap.tab6 : rtab .any (opsOf Try.f32 6) = impl_DecodeHeap.T6 := by kernel_rfl
theorem impl_DecodeHeap.bits6 : waitsOk impl_DecodeHeap.T6.2 impl_DecodeHeap.B6 = true := by kernel_rfl
set_option maxHeartbeats 8000000 in
set_option maxRecDepth 100000 in
theorem impl_DecodeHeap.calls (k : Nat) (a0 : ByteArray) (r1 : List ByteArray) (r2 : Bool) (w : World) (h : impl_DecodeHeap.f k a0 = some (r1, r2)) :
    Calls Try.prog 32 #[.string a0] w fun e w' => ∃ v0_ : Value, e = .returned (.tuple #[.agg #[v0_], .bool r2]) ∧ Kd.R Kd.string 9 w' w.heap.size (fun _ => True) v0_ r1 ∧ Below w.heap.size w w' := by
  have hu52 := Try.underlying52
  have hu103 := Try.underlying103
  have HB := Aside0.mk (Below.refl w.heap.size w)
  have H : ((impl_decoder_byte.f k a0 false).bind fun bt311 => (impl_DecodeHeap.l0 k bt311.1 bt311.2.1 bt311.2.2 ([] : List ByteArray))) = some (r1, r2) := h
  clear h
  replace H := Option.bind_eq_some_iff.mp H
  obtain ⟨⟨t311, t312, t313⟩, A20, H⟩ := H
  replace H : (impl_DecodeHeap.l0 k t311 t312 t313 ([] : List ByteArray)) = some (r1, r2) := H
  have A2 := Aside0.mk A20
  clear A20
  have H' := Aside0.mk H
  clear H
  go_enter Try.func32, Try.ntmps32
  go_wp2_with (first | ((with_reducible refine gate_dst (N := 2) rfl ?_); refine box_event ?hg (N := 2) ?hd (cs := #[.slice none 0 0]) (t := 52) ?hr ?_; (case hd => rfl); (case hg => rfl); (case hr => first | (go_simp; done) | (go_simp; rfl)); intro gb308 hg w3 hbox hb; have n0_ := Aside0.mk (below_step (by repeat (first | (with_reducible first | exact HB.out | apply below_alloc | apply pw_below_drewN | apply below_drew1) | exact HB.out)) hb); have n1_ := Aside0.mk (hbox); have n2_ := Aside0.mk ((by rw [hg]; exact (below_size (by repeat (first | (with_reducible first | exact HB.out | apply below_alloc | apply pw_below_drewN | apply below_drew1) | exact HB.out))) : w.heap.size ≤ gb308)); have n3_ := Aside0.mk ((by rw [hg]; exact (below_size (by repeat (first | (with_reducible first | exact HB.out | apply below_alloc | apply pw_below_drewN | apply below_drew1) | exact HB.out))) : w.heap.size ≤ gb308)); clear HB; have HB := n0_; have BK308 := n1_; have GW308 := n2_; have GE308 := n3_; clear n0_ n1_ n2_ n3_; clear hb hbox hg) | ((with_reducible refine gate_dst (N := 9) rfl ?_); refine box_event ?hg (N := 9) ?hd (cs := #[.string a0, .bool false]) (t := 103) ?hr ?_; (case hd => rfl); (case hg => rfl); (case hr => first | (go_simp; done) | (go_simp; rfl)); intro gb309 hg w4 hbox hb; have n0_ := Aside0.mk (blk_below (g := gb308) (o := .cells #[.slice none 0 0] 52 (0, 0)) (by (with_reducible repeat (first | refine blk_drewN ?_ _ | refine blk_drew ?_ | refine blk_alloc ?_ _)); exact BK308.out) hb); have n1_ := Aside0.mk (below_step (by repeat (first | (with_reducible first | exact HB.out | apply below_alloc | apply pw_below_drewN | apply below_drew1 | refine below_set ?_ GE308.out) | exact HB.out)) hb); have n2_ := Aside0.mk (hbox); have n3_ := Aside0.mk ((by rw [hg]; exact (below_size (by repeat (first | (with_reducible first | exact HB.out | apply below_alloc | apply pw_below_drewN | apply below_drew1 | refine below_set ?_ GE308.out) | exact HB.out))) : w.heap.size ≤ gb309)); have n4_ := Aside0.mk ((by rw [hg]; exact (below_size (by repeat (first | (with_reducible first | exact HB.out | apply below_alloc | apply pw_below_drewN | apply below_drew1 | refine below_set ?_ GE308.out) | exact HB.out))) : w.heap.size ≤ gb309)); have n5_ := Aside0.mk ((by rw [hg]; exact Nat.ne_of_lt (blk_lt (g := gb308) (o := .cells #[.slice none 0 0] 52 (0, 0)) (by (with_reducible repeat (first | refine blk_drewN ?_ _ | refine blk_drew ?_ | refine blk_alloc ?_ _)); exact BK308.out)) : gb308 ≠ gb309)); have n6_ := Aside0.mk ((by rw [hg]; exact Nat.ne_of_gt (blk_lt (g := gb308) (o := .cells #[.slice none 0 0] 52 (0, 0)) (by (with_reducible repeat (first | refine blk_drewN ?_ _ | refine blk_drew ?_ | refine blk_alloc ?_ _)); exact BK308.out)) : gb309 ≠ gb308)); have n7_ := Aside0.mk ((⟨hbox, by rw [hg]; exact (below_size (by repeat (first | (with_reducible first | exact HB.out | apply below_alloc | apply pw_below_drewN | apply below_drew1 | refine below_set ?_ GE308.out) | exact HB.out)))⟩ : IsS103 w w4 gb309 a0 false)); clear BK308; clear HB; have BK308 := n0_; have HB := n1_; have BK309 := n2_; have GW309 := n3_; have GE309 := n4_; have NB308_309 := n5_; have NB309_308 := n6_; have HI309 := n7_; clear n0_ n1_ n2_ n3_ n4_ n5_ n6_ n7_; clear hb hbox hg) | ((with_reducible refine gate_dst (N := 5) rfl ?_); refine box_event ?hg (N := 5) ?hd (cs := #[.slice none 0 0]) (t := 52) ?hr ?_; (case hd => rfl); (case hg => rfl); (case hr => first | (go_simp; done) | (go_simp; rfl)); intro gb310 hg w5 hbox hb; have n0_ := Aside0.mk (blk_below (g := gb308) (o := .cells #[.slice none 0 0] 52 (0, 0)) (by (with_reducible repeat (first | refine blk_drewN ?_ _ | refine blk_drew ?_ | refine blk_alloc ?_ _)); exact BK308.out) hb); have n1_ := Aside0.mk (IsS103.below (by repeat (first | (with_reducible first | exact HI309.out | apply IsS103.alloc | apply IsS103.drewN | apply IsS103.drew | apply IsS103.set_0 | apply IsS103.set_1 | refine IsS103.far ?_ NB309_308.out _) | exact HI309.out)) hb); have n2_ := Aside0.mk (below_step (by repeat (first | (with_reducible first | exact HB.out | apply below_alloc | apply pw_below_drewN | apply below_drew1 | refine below_set ?_ (IsS103.ge HI309.out) | refine below_set ?_ GE308.out) | exact HB.out)) hb); have n3_ := Aside0.mk (hbox); have n4_ := Aside0.mk ((by rw [hg]; exact (below_size (by repeat (first | (with_reducible first | exact HB.out | apply below_alloc | apply pw_below_drewN | apply below_drew1 | refine below_set ?_ (IsS103.ge HI309.out) | refine below_set ?_ GE308.out) | exact HB.out))) : w.heap.size ≤ gb310)); have n5_ := Aside0.mk ((by rw [hg]; exact (below_size (by repeat (first | (with_reducible first | exact HB.out | apply below_alloc | apply pw_below_drewN | apply below_drew1 | refine below_set ?_ (IsS103.ge HI309.out) | refine below_set ?_ GE308.out) | exact HB.out))) : w.heap.size ≤ gb310)); have n6_ := Aside0.mk ((by rw [hg]; exact Nat.ne_of_lt (blk_lt (g := gb308) (o := .cells #[.slice none 0 0] 52 (0, 0)) (by (with_reducible repeat (first | refine blk_drewN ?_ _ | refine blk_drew ?_ | refine blk_alloc ?_ _)); exact BK308.out)) : gb308 ≠ gb310)); have n7_ := Aside0.mk ((by rw [hg]; exact Nat.ne_of_gt (blk_lt (g := gb308) (o := .cells #[.slice none 0 0] 52 (0, 0)) (by (with_reducible repeat (first | refine blk_drewN ?_ _ | refine blk_drew ?_ | refine blk_alloc ?_ _)); exact BK308.out)) : gb310 ≠ gb308)); have n8_ := Aside0.mk ((by rw [hg]; exact Nat.ne_of_lt (IsS103.lt (show IsS103 w _ gb309 a0 false from by repeat (first | (with_reducible first | exact HI309.out | apply IsS103.alloc | apply IsS103.drewN | apply IsS103.drew | apply IsS103.set_0 | apply IsS103.set_1 | refine IsS103.far ?_ NB309_308.out _) | exact HI309.out))) : gb309 ≠ gb310)); have n9_ := Aside0.mk ((by rw [hg]; exact Nat.ne_of_gt (IsS103.lt (show IsS103 w _ gb309 a0 false from by repeat (first | (with_reducible first | exact HI309.out | apply IsS103.alloc | apply IsS103.drewN | apply IsS103.drew | apply IsS103.set_0 | apply IsS103.set_1 | refine IsS103.far ?_ NB309_308.out _) | exact HI309.out))) : gb310 ≠ gb309)); clear BK308; clear HI309; clear HB; have BK308 := n0_; have HI309 := n1_; have HB := n2_; have BK310 := n3_; have GW310 := n4_; have GE310 := n5_; have NB308_310 := n6_; have NB310_308 := n7_; have NB309_310 := n8_; have NB310_309 := n9_; clear n0_ n1_ n2_ n3_ n4_ n5_ n6_ n7_ n8_ n9_; clear hb hbox hg) | ((with_reducible refine gate_callee (f := 87) rfl ?_); refine goesL_ (some 11) rfl rfl Try.func87 (by kernel_rfl) rfl #[.pointer (some ⟨gb309, 0, none⟩)] rfl (by (try simp only [List.map_toArray, List.map_cons, List.map_nil]); first | done | rfl | (simp only [List.length_drop, List.length_take]; rfl)) ?_; (with_reducible refine (impl_decoder_byte.calls k gb309 a0 false t311 t312 t313 w _ ?side1 ?side2 A2.out).mono ?_); (case side1 => repeat (first | (with_reducible first | exact HI309.out | apply IsS103.alloc | apply IsS103.drewN | apply IsS103.drew | apply IsS103.set_0 | apply IsS103.set_1 | refine IsS103.far ?_ NB309_308.out _ | refine IsS103.far ?_ NB309_310.out _) | exact HI309.out)); (case side2 => repeat (first | (with_reducible first | exact HB.out | apply below_alloc | apply pw_below_drewN | apply below_drew1 | refine below_set ?_ (IsS103.ge HI309.out) | refine below_set ?_ GE308.out | refine below_set ?_ GE310.out) | exact HB.out)); rintro e w6 ⟨rfl, hi, hb, hk⟩; refine ⟨_, rfl, ?_⟩; have n0_ := Aside0.mk (KeepBut.blk hk (g' := gb308) (o := .cells #[.slice none 0 0] 52 (0, 0)) (by (with_reducible repeat (first | refine blk_drewN ?_ _ | refine blk_drew ?_ | refine blk_alloc ?_ _)); exact BK308.out) NB308_309.out (by simp)); have n1_ := Aside0.mk (KeepBut.blk hk (g' := gb310) (o := .cells #[.slice none 0 0] 52 (0, 0)) (by (with_reducible repeat (first | refine blk_drewN ?_ _ | refine blk_drew ?_ | refine blk_alloc ?_ _)); exact BK310.out) NB310_309.out (by simp)); have n2_ := Aside0.mk (hb); have n3_ := Aside0.mk (hi); clear BK308; clear BK310; clear HB; clear HI309; have BK308 := n0_; have BK310 := n1_; have HB := n2_; have HI309 := n3_; clear n0_ n1_ n2_ n3_; (try clear hb); (try clear hb2); (try clear hk); (try clear hi)))
  go_loopg [6] k (fun kq v6 w' => ∃ (x6_1 : Int) (x310000_1 : ByteArray) (x310001_1 : Bool) (x311000_1 : List ByteArray) (u311000 : Value), v6 = .int .i64 x6_1 ∧ Aside0 (impl_DecodeHeap.l0 kq x6_1 x310000_1 x310001_1 x311000_1 = some (r1, r2)) ∧ Aside0 (kq ≤ k) ∧ Aside0 (Kd.R Kd.string 9 w' w.heap.size (fun _ => True) u311000 x311000_1) ∧ Aside0 (w'.heap[gb308]? = some (.cells #[(.slice none 0 0)] 52 (0, 0))) ∧ Aside0 (w'.heap[gb310]? = some (.cells #[u311000] 52 (0, 0))) ∧ Aside0 (IsS103 w w' gb309 x310000_1 x310001_1) ∧ Aside0 (Below w.heap.size w w'))
  case atStart => exact ⟨(t311), (t312), (t313), (([] : List ByteArray)), (.slice none 0 0), (by first | rfl | (simp; done) | (simp [*]; done)), H', ⟨Nat.le_refl _⟩, ⟨by first | exact Kd.R_nil _ _ _ _ _ | exact Kd.N_nil _ _ _ _ _ | exact Kd.V_nil _ _ _ _ _ | exact Kd.Q_nil _ _ _ _ _ | exact Kd.S_nil _ _ _ _ _⟩, ⟨by (with_reducible repeat (first | refine blk_drewN ?_ _ | refine blk_drew ?_ | refine blk_alloc ?_ _)); exact BK308.out⟩, ⟨by (with_reducible repeat (first | refine blk_drewN ?_ _ | refine blk_drew ?_ | refine blk_alloc ?_ _)); exact BK310.out⟩, ⟨by repeat (first | (with_reducible first | exact HI309.out | apply IsS103.alloc | apply IsS103.drewN | apply IsS103.drew | apply IsS103.set_0 | apply IsS103.set_1 | refine IsS103.far ?_ NB309_308.out _ | refine IsS103.far ?_ NB309_310.out _) | exact HI309.out)⟩, ⟨by repeat (first | (with_reducible first | exact HB.out | apply below_alloc | apply pw_below_drewN | apply below_drew1 | refine below_set ?_ (IsS103.ge HI309.out) | refine below_set ?_ GE308.out | refine below_set ?_ GE310.out) | exact HB.out)⟩⟩
  case round =>
    clear H'
    try clear p2
    try clear c3
    obtain ⟨x6_1, x310000_1, x310001_1, x311000_1, u311000, rfl, HA, HK1, HO_311000, BK308, BK310, HI309, HB⟩ := hrel
    cases gk with
    | zero => exact absurd HA.out (by simp [impl_DecodeHeap.l0])
    | succ k1 =>
      have H := HA.out
      clear HA
      simp only [impl_DecodeHeap.l0] at H
      by_cases c7 : x6_1 > 0
      · rw [if_pos c7] at H
        have c7b0 : decide (0 < x6_1) = true := decide_eq_true c7
        clear c7
        by_cases c8 : x310001_1 = true
        · subst c8
          have H1 : (some (([] : List ByteArray), false)) = some (r1, r2) := by rw [if_pos rfl] at H; exact H
          clear H
          have H := H1
          clear H1
          simp only [Option.some.injEq, Prod.mk.injEq] at H
          obtain ⟨rfl, rfl⟩ := H
          obtain ⟨HGz9, hgz9⟩ := HI309.out
          have hcz9_0 := cellS103_0 HGz9
          have hcz9_1 := cellS103_1 HGz9
          have hfz9_0 := blk_frozen HGz9 0
          have hfz9_1 := blk_frozen HGz9 1
          clear HGz9 hgz9
          have hnb10 := NB308_310.out
          have hnc10 := NB310_308.out
          have hnb11 := NB308_309.out
          have hnc11 := NB309_308.out
          have hcz12_0 : wr.cell? ⟨gb308, 0, none⟩ = some (.slice none 0 0) := (blk_cell BK308.out 0).trans rfl
          have hfz12_0 := blk_frozen BK308.out 0
          go_wp2
          refine bodyPost_ret (results_ct rfl _ _ gb308 52 #[.slice none 0 0] (0, 0) _ rfl (by (with_reducible repeat (first | refine blk_drewN ?_ _ | refine blk_drew ?_ | refine blk_alloc ?_ _)); refine blk_put (cs := #[.slice none 0 0]) ?_ 0 _ rfl; (with_reducible repeat (first | refine blk_drewN ?_ _ | refine blk_drew ?_ | refine blk_alloc ?_ _)); exact BK308.out) Try.underlying52 rfl (by kernel_rfl)) rfl ?_
          exact ⟨_, by first | rfl | (simp [errW_none, errW_some] <;> rfl) | (simp [*, errW_none, errW_some] <;> rfl), by first | exact Kd.R_nil _ _ _ _ _ | exact Kd.N_nil _ _ _ _ _ | exact Kd.V_nil _ _ _ _ _ | exact Kd.Q_nil _ _ _ _ _ | exact Kd.S_nil _ _ _ _ _, by repeat (first | (with_reducible first | exact HB.out | apply below_alloc | apply pw_below_drewN | apply below_drew1 | refine below_set ?_ (IsS103.ge HI309.out) | refine below_set ?_ GE308.out | refine below_set ?_ GE310.out) | exact HB.out)⟩
        · replace c8 := Bool.eq_false_iff.mpr c8
          subst c8
          have H1 : ((impl_decoder_name.f k1 x310000_1 false).bind fun bt314 => (if x311000_1.length < 8796093022208 then (impl_DecodeHeap.l0 k1 (wrap64 (x6_1 - 1)) bt314.2.1 bt314.2.2 (x311000_1 ++ [bt314.1])) else (none))) = some (r1, r2) := by rw [if_neg (show ¬ (false = true) by decide)] at H; exact H
          clear H
          have H := H1
          clear H1
          replace H := Option.bind_eq_some_iff.mp H
          obtain ⟨⟨t314, t315, t316⟩, A130, H⟩ := H
          replace H : (if x311000_1.length < 8796093022208 then (impl_DecodeHeap.l0 k1 (wrap64 (x6_1 - 1)) t315 t316 (x311000_1 ++ [t314])) else (none)) = some (r1, r2) := H
          have A13 := Aside0.mk A130
          clear A130
          by_cases c14 : x311000_1.length < 8796093022208
          · rw [if_pos c14] at H
            have LMc14 := Aside0.mk c14
            clear c14
            obtain ⟨y317, hy317⟩ : ∃ y_ : List ByteArray, y_ = (x311000_1 ++ [t314]) := ⟨_, rfl⟩
            replace H : (impl_DecodeHeap.l0 k1 (wrap64 (x6_1 - 1)) t315 t316 y317) = some (r1, r2) := by first | (rw [hy317]; with_reducible exact H) | (have H2_ := (Option.bind_some _ _).symm.trans H; rw [hy317]; with_reducible exact H2_) | (have H2_ := (Option.bind_some _ _).symm.trans H; with_reducible exact H2_) | with_reducible exact H | (rw [hy317]; exact H) | exact H
            have Ny317 := Aside0.mk hy317
            clear hy317
            have H' := Aside0.mk H
            clear H
            obtain ⟨HGz15, hgz15⟩ := HI309.out
            have hcz15_0 := cellS103_0 HGz15
            have hcz15_1 := cellS103_1 HGz15
            have hfz15_0 := blk_frozen HGz15 0
            have hfz15_1 := blk_frozen HGz15 1
            clear HGz15 hgz15
            try go_wp2
            have n0_ := Aside0.mk (Kd.R_drew HO_311000.out)
            have n1_ := Aside0.mk (blk_drew BK308.out)
            have n2_ := Aside0.mk (blk_drew BK310.out)
            have n3_ := Aside0.mk (IsS103.drew HI309.out)
            have n4_ := Aside0.mk (below_drew1 HB.out)
            clear HO_311000
            clear BK308
            clear BK310
            clear HI309
            clear HB
            have HO_311000 := n0_
            have BK308 := n1_
            have BK310 := n2_
            have HI309 := n3_
            have HB := n4_
            clear n0_ n1_ n2_ n3_ n4_
            refine start_ (n := 8) (S := fun w' => w'.cell? ⟨gb310, 0, none⟩ = some (u311000)) (ds := [7]) #[false, false, false, false, false, false, false, false] (by kernel_rfl) rfl rfl ((blk_cell BK310.out 0).trans rfl) (fun hHeld => ?_); refine with_tabW impl_DecodeHeap.tab6 impl_DecodeHeap.bits6 (fun HT_ HW_ => ?_)
            generalize wr.drew = w16 at HO_311000 BK308 BK310 HI309 HB hHeld ⊢
            refine pure_ (i := 0) (N := some 23) (v := ?_) (a' := ?_) #[true, false, false, false, false, false, false, false] rfl rfl (any_of HT_.out (by kernel_rfl)) (fun _ _ _ h => h) (Or.inl ⟨by rfl, ?_⟩) ?_ ?_
            rotate_left
            · intro w'
              go_simp
              with_reducible rfl
            rotate_left
            · simp only [Act.put, List.setIfInBounds_toArray, List.set_cons_zero, List.set_cons_succ, i64_w, i32_w]
              rfl
            refine pure_ (i := 2) (N := some 25) (v := ?_) (a' := ?_) #[true, false, true, false, false, false, false, false] rfl rfl (any_of HT_.out (by kernel_rfl)) (fun _ _ _ h => h) (Or.inl ⟨by rfl, ?_⟩) ?_ ?_
            rotate_left
            · intro w'
              go_simp
              with_reducible rfl
            rotate_left
            · simp only [Act.put, List.setIfInBounds_toArray, List.set_cons_zero, List.set_cons_succ, i64_w, i32_w]
              rfl
            refine take_ (i := 1) (N := some 24) (v := ?_) (a' := ?_) #[true, true, true, false, false, false, false, false] rfl rfl (take_ofW HT_.out HW_.out (by kernel_rfl)) (fun _ _ _ h => h) (Or.inl ⟨by rfl, ?_⟩) hHeld ?_ ?_
            rotate_left
            · intro w' s0
              go_simp
              with_reducible rfl
            rotate_left
            · simp only [Act.put, List.setIfInBounds_toArray, List.set_cons_zero, List.set_cons_succ, i64_w, i32_w]
              rfl
            refine one_ (i := 3) (N := some 26) #[true, true, true, true, false, false, false, false] rfl rfl (one_of HT_.out (by kernel_rfl)) (by decide) (fun K hK => ?_)
            refine goes_ Try.func88 (by kernel_rfl) rfl #[.pointer (some ⟨gb309, 0, none⟩)] (by rfl) rfl rfl (by (try simp only [List.map_toArray, List.map_cons, List.map_nil]); first | done | rfl | (simp only [List.length_drop, List.length_take]; rfl)) ?_
            with_reducible refine (impl_decoder_name.calls k1 gb309 x310000_1 false t314 t315 t316 w _ ?side1 ?side2 A13.out).mono ?_
            (case side1 => repeat (first | (with_reducible first | exact HI309.out | apply IsS103.alloc | apply IsS103.drewN | apply IsS103.drew | apply IsS103.set_0 | apply IsS103.set_1 | refine IsS103.far ?_ NB309_308.out _ | refine IsS103.far ?_ NB309_310.out _) | exact HI309.out))
            (case side2 => repeat (first | (with_reducible first | exact HB.out | apply below_alloc | apply pw_below_drewN | apply below_drew1 | refine below_set ?_ (IsS103.ge HI309.out) | refine below_set ?_ GE308.out | refine below_set ?_ GE310.out) | exact HB.out))
            rintro e w17 ⟨rfl, hi, hb, hk⟩
            refine ⟨_, rfl, ?_⟩
            have n0_ := Aside0.mk (Kd.R_mono (Kd.R_keep (IsS103.apart (show IsS103 w _ gb309 x310000_1 false from by repeat (first | (with_reducible first | exact HI309.out | apply IsS103.alloc | apply IsS103.drewN | apply IsS103.drew | apply IsS103.set_0 | apply IsS103.set_1 | refine IsS103.far ?_ NB309_308.out _ | refine IsS103.far ?_ NB309_310.out _) | exact HI309.out)) (by (with_reducible repeat (first | apply Kd.R_alloc | apply Kd.R_drewN | apply Kd.R_drew)); exact HO_311000.out) (by decide)) hk (fun _ h => h.2)) (fun _ h => h.1))
            have n1_ := Aside0.mk (KeepBut.blk hk (g' := gb308) (o := .cells #[.slice none 0 0] 52 (0, 0)) (by (with_reducible repeat (first | refine blk_drewN ?_ _ | refine blk_drew ?_ | refine blk_alloc ?_ _)); exact BK308.out) NB308_309.out (by simp))
            have n2_ := Aside0.mk (KeepBut.blk hk (g' := gb310) (o := .cells #[u311000] 52 (0, 0)) (by (with_reducible repeat (first | refine blk_drewN ?_ _ | refine blk_drew ?_ | refine blk_alloc ?_ _)); exact BK310.out) NB310_309.out (by simp))
            have n3_ := Aside0.mk (hb)
            have n4_ := Aside0.mk (hi)
            clear HO_311000
            clear BK308
            clear BK310
            clear HB
            clear HI309
            have HO_311000 := n0_
            have BK308 := n1_
            have BK310 := n2_
            have HB := n3_
            have HI309 := n4_
            clear n0_ n1_ n2_ n3_ n4_
            (try clear hb)
            (try clear hb2)
            (try clear hk)
            (try clear hi)
            refine hK.out _ _ ((blk_cell BK310.out 0).trans rfl) (fun hHeld => ?_)
            clear hK K
            refine norm_ (a' := ?_) ?_ ?_
            rotate_left
            · show Act.put _ (some 26) _ = _
              simp only [Act.put, List.setIfInBounds_toArray, List.set_cons_zero, List.set_cons_succ, i64_w, i32_w]
              rfl
            refine one_ (i := 4) (N := some 27) #[true, true, true, true, true, false, false, false] rfl rfl (one_of HT_.out (by kernel_rfl)) (by decide) (fun K hK => ?_)
            refine value_ (w1 := ?_) (v := ?_) (by rfl) rfl ?_ ?_
            rotate_left 2
            · go_simp
              constructor
              · rfl
              · rfl
            refine hK.out _ _ ((blk_cell (blk_alloc BK310.out _) 0).trans rfl) (fun hHeld => ?_)
            clear hK K
            refine norm_ (a' := ?_) ?_ ?_
            rotate_left
            · show Act.put _ (some 27) _ = _
              simp only [Act.put, List.setIfInBounds_toArray, List.set_cons_zero, List.set_cons_succ, i64_w, i32_w]
              rfl
            refine one_ (i := 5) (N := some 28) #[true, true, true, true, true, true, false, false] rfl rfl (one_of HT_.out (by kernel_rfl)) (by decide) (fun K hK => ?_)
            refine Kd.R_append_step Kd.string (w0 := w) w.heap.size (by rfl) (.tmp 24) (.tmp 27) 24 9 (.string ⟨#[]⟩) 16 rfl Try.underlying24 info9 rfl (by decide) (by omega) u311000 x311000_1 t314 [.string t314] (fun _ => True) (fun _ => False) rfl rfl ?aP (fun _ hk => hk.elim) ?aF ?aO ?aB ?aS ?aL ?_
            (case aP => exact rfl)
            (case aB => exact (by repeat (first | (with_reducible first | exact HB.out | apply below_alloc | apply pw_below_drewN | apply below_drew1 | refine below_set ?_ (IsS103.ge HI309.out) | refine below_set ?_ GE308.out | refine below_set ?_ GE310.out) | exact HB.out)))
            (case aF => exact (fun _ _ => trivial))
            (case aO => exact (by (with_reducible repeat (first | apply Kd.R_alloc | apply Kd.R_drewN | apply Kd.R_drew)); exact HO_311000.out))
            (case aS => exact (below_size (by repeat (first | (with_reducible first | exact HB.out | apply below_alloc | apply pw_below_drewN | apply below_drew1 | refine below_set ?_ (IsS103.ge HI309.out) | refine below_set ?_ GE308.out | refine below_set ?_ GE310.out) | exact HB.out))))
            (case aL => have := LMc14.out; omega)
            intro v318 w18 ho hb hg hat
            rw [← Ny317.out] at ho
            have n0_ := Aside0.mk (blk_grown (g := gb308) (o := .cells #[.slice none 0 0] 52 (0, 0)) (by (with_reducible repeat (first | refine blk_drewN ?_ _ | refine blk_drew ?_ | refine blk_alloc ?_ _)); exact BK308.out) hg (Kd.R_ne HO_311000.out BK308.out (by decide)))
            have n1_ := Aside0.mk (blk_grown (g := gb310) (o := .cells #[u311000] 52 (0, 0)) (by (with_reducible repeat (first | refine blk_drewN ?_ _ | refine blk_drew ?_ | refine blk_alloc ?_ _)); exact BK310.out) hg (Kd.R_ne HO_311000.out BK310.out (by decide)))
            have n2_ := Aside0.mk (IsS103.grown (show IsS103 w _ gb309 t315 t316 from by repeat (first | (with_reducible first | exact HI309.out | apply IsS103.alloc | apply IsS103.drewN | apply IsS103.drew | apply IsS103.set_0 | apply IsS103.set_1 | refine IsS103.far ?_ NB309_308.out _ | refine IsS103.far ?_ NB309_310.out _) | exact HI309.out)) hg (IsS103.own_ne HI309.out HO_311000.out (by decide)))
            have n3_ := Aside0.mk (hb)
            have n4_ := Aside0.mk (ho)
            clear BK308
            clear BK310
            clear HI309
            clear HB
            clear HO_311000
            have BK308 := n0_
            have BK310 := n1_
            have HI309 := n2_
            have HB := n3_
            have HO319 := n4_
            clear n0_ n1_ n2_ n3_ n4_
            clear ho hb hg hat
            obtain ⟨Ao19, co19, eo19⟩ := Kd.R_slice HO319.out
            (first | subst eo19 | (injection eo19 with f1_ f2_ f3_; have f4_ := f1_.symm; have f5_ := f3_.symm; clear f1_ f2_ f3_; subst f4_; subst f5_))
            refine hK.out _ _ ((blk_cell BK310.out 0).trans rfl) (fun hHeld => ?_)
            clear hK K
            refine norm_ (a' := ?_) ?_ ?_
            rotate_left
            · show Act.put _ (some 28) _ = _
              simp only [Act.put, List.setIfInBounds_toArray, List.set_cons_zero, List.set_cons_succ, i64_w, i32_w]
              rfl
            refine pure_ (i := 6) (N := some 29) (v := ?_) (a' := ?_) #[true, true, true, true, true, true, true, false] rfl rfl (any_of HT_.out (by kernel_rfl)) (fun _ _ _ h => h) (Or.inl ⟨by rfl, ?_⟩) ?_ ?_
            rotate_left
            · intro w'
              go_simp
              with_reducible rfl
            rotate_left
            · simp only [Act.put, List.setIfInBounds_toArray, List.set_cons_zero, List.set_cons_succ, i64_w, i32_w]
              rfl
            refine last_ (i := 7) (N := none) #[true, true, true, true, true, true, true, true] rfl rfl (one_of HT_.out (by kernel_rfl)) (by decide) (fun K hK => ?_)
            have hs20 : w18.cell? ⟨gb310, 0, none⟩ = some (u311000) := (blk_cell BK310.out 0).trans rfl
            have hfs20 := blk_frozen BK310.out 0
            have hns20_0 := NB308_310.out
            have hms20_0 := NB310_308.out
            refine skip_ (w1 := ?_) (by rfl) rfl ?_ ?_
            rotate_left
            · go_simp
              rfl
            refine hK.out _ _ ?_
            clear hK K
            refine done_ (done_of HT_.out (by kernel_rfl)) ?_
            try go_wp2
            go_roundg k1
            case measure => have := HK1.out; omega
            case rel => exact ⟨(wrap64 (x6_1 - 1)), (t315), (t316), (y317), (.slice Ao19 y317.length co19), (by first | rfl | (simp; done) | (simp [*]; done)), H', ⟨by have := HK1.out; omega⟩, ⟨by (with_reducible repeat (first | apply Kd.R_alloc | apply Kd.R_drewN | apply Kd.R_drew)); exact Kd.R_mono (Kd.R_far (p := ⟨gb310, 0, none⟩) (Kd.R_types HO319.out BK310.out (by decide)) (fun _ hk => hk.2) (.slice Ao19 y317.length co19)) (fun _ hk => trivial)⟩, ⟨by (with_reducible repeat (first | refine blk_drewN ?_ _ | refine blk_drew ?_ | refine blk_alloc ?_ _)); refine blk_far ?_ NB308_310.out _; (with_reducible repeat (first | refine blk_drewN ?_ _ | refine blk_drew ?_ | refine blk_alloc ?_ _)); exact BK308.out⟩, ⟨by (with_reducible repeat (first | refine blk_drewN ?_ _ | refine blk_drew ?_ | refine blk_alloc ?_ _)); refine blk_put (cs := #[u311000]) ?_ 0 _ rfl; (with_reducible repeat (first | refine blk_drewN ?_ _ | refine blk_drew ?_ | refine blk_alloc ?_ _)); exact BK310.out⟩, ⟨by repeat (first | (with_reducible first | exact HI309.out | apply IsS103.alloc | apply IsS103.drewN | apply IsS103.drew | apply IsS103.set_0 | apply IsS103.set_1 | refine IsS103.far ?_ NB309_308.out _ | refine IsS103.far ?_ NB309_310.out _) | exact HI309.out)⟩, ⟨by repeat (first | (with_reducible first | exact HB.out | apply below_alloc | apply pw_below_drewN | apply below_drew1 | refine below_set ?_ (IsS103.ge HI309.out) | refine below_set ?_ GE308.out | refine below_set ?_ GE310.out) | exact HB.out)⟩⟩
          · rw [if_neg c14] at H
            exact absurd H (by simp)
      · rw [if_neg c7] at H
        have c7b0 : decide (0 < x6_1) = false := decide_eq_false c7
        clear c7
        by_cases c21 : x310001_1 = true
        · subst c21
          have H1 : (some (([] : List ByteArray), false)) = some (r1, r2) := by rw [if_pos rfl] at H; exact H
          clear H
          have H := H1
          clear H1
          simp only [Option.some.injEq, Prod.mk.injEq] at H
          obtain ⟨rfl, rfl⟩ := H
          obtain ⟨HGz22, hgz22⟩ := HI309.out
          have hcz22_0 := cellS103_0 HGz22
          have hcz22_1 := cellS103_1 HGz22
          have hfz22_0 := blk_frozen HGz22 0
          have hfz22_1 := blk_frozen HGz22 1
          clear HGz22 hgz22
          have hnb23 := NB308_310.out
          have hnc23 := NB310_308.out
          have hnb24 := NB308_309.out
          have hnc24 := NB309_308.out
          have hcz25_0 : wr.cell? ⟨gb308, 0, none⟩ = some (.slice none 0 0) := (blk_cell BK308.out 0).trans rfl
          have hfz25_0 := blk_frozen BK308.out 0
          go_wp2
          refine bodyPost_ret (results_ct rfl _ _ gb308 52 #[.slice none 0 0] (0, 0) _ rfl (by (with_reducible repeat (first | refine blk_drewN ?_ _ | refine blk_drew ?_ | refine blk_alloc ?_ _)); refine blk_put (cs := #[.slice none 0 0]) ?_ 0 _ rfl; (with_reducible repeat (first | refine blk_drewN ?_ _ | refine blk_drew ?_ | refine blk_alloc ?_ _)); exact BK308.out) Try.underlying52 rfl (by kernel_rfl)) rfl ?_
          exact ⟨_, by first | rfl | (simp [errW_none, errW_some] <;> rfl) | (simp [*, errW_none, errW_some] <;> rfl), by first | exact Kd.R_nil _ _ _ _ _ | exact Kd.N_nil _ _ _ _ _ | exact Kd.V_nil _ _ _ _ _ | exact Kd.Q_nil _ _ _ _ _ | exact Kd.S_nil _ _ _ _ _, by repeat (first | (with_reducible first | exact HB.out | apply below_alloc | apply pw_below_drewN | apply below_drew1 | refine below_set ?_ (IsS103.ge HI309.out) | refine below_set ?_ GE308.out | refine below_set ?_ GE310.out) | exact HB.out)⟩
        · replace c21 := Bool.eq_false_iff.mpr c21
          subst c21
          have H1 : (if x310000_1.toList = ([] : List UInt8) then ((impl_ValidHeap.f k1 x311000_1).bind fun t320 => (if t320 = true then (some (x311000_1, true)) else (some (([] : List ByteArray), false)))) else (some (([] : List ByteArray), false))) = some (r1, r2) := by rw [if_neg (show ¬ (false = true) by decide)] at H; exact H
          clear H
          have H := H1
          clear H1
          by_cases c26 : x310000_1.toList = ([] : List UInt8)
          · rw [if_pos c26] at H
            have c26b0 : (x310000_1.toList == ([] : List UInt8)) = true := beq_iff_eq.mpr c26
            have c26b1 : (x310000_1.toList != ([] : List UInt8)) = false := bne_eq_false_iff_eq.mpr c26
            clear c26
            replace H := Option.bind_eq_some_iff.mp H
            obtain ⟨t320, A270, H⟩ := H
            replace H : (if t320 = true then (some (x311000_1, true)) else (some (([] : List ByteArray), false))) = some (r1, r2) := H
            have A27 := Aside0.mk A270
            clear A270
            by_cases c28 : t320 = true
            · subst c28
              have H1 : (some (x311000_1, true)) = some (r1, r2) := by rw [if_pos rfl] at H; exact H
              clear H
              have H := H1
              clear H1
              simp only [Option.some.injEq, Prod.mk.injEq] at H
              obtain ⟨rfl, rfl⟩ := H
              obtain ⟨HGz29, hgz29⟩ := HI309.out
              have hcz29_0 := cellS103_0 HGz29
              have hcz29_1 := cellS103_1 HGz29
              have hfz29_0 := blk_frozen HGz29 0
              have hfz29_1 := blk_frozen HGz29 1
              clear HGz29 hgz29
              have hnb30 := NB310_308.out
              have hnc30 := NB308_310.out
              have hnb31 := NB310_309.out
              have hnc31 := NB309_310.out
              have hcz32_0 : wr.cell? ⟨gb310, 0, none⟩ = some (u311000) := (blk_cell BK310.out 0).trans rfl
              have hfz32_0 := blk_frozen BK310.out 0
              obtain ⟨Ao33, co33, eo33⟩ := Kd.R_slice HO_311000.out
              subst eo33
              go_wp2_with (first | (go_at_call 78; (with_reducible refine (impl_ValidHeap.calls k1 _ _ x311000_1 true _ ?side1 ?side2 A27.out).mono ?_); (case side1 => repeat (first | exact (Kd.R_reads' HO_311000.out).2.2 | (with_reducible refine Kd.C_alloc ?_ _) | (with_reducible refine Kd.C_drewN ?_ _) | (with_reducible refine Kd.C_drew ?_))); (case side2 => exact (Kd.R_reads' HO_311000.out).2.1); rintro e w34 ⟨rfl, hb⟩; have n0_ := Aside0.mk (Kd.R_below (by (with_reducible repeat (first | apply Kd.R_alloc | apply Kd.R_drewN | apply Kd.R_drew)); exact HO_311000.out) hb); have n1_ := Aside0.mk (blk_below (g := gb308) (o := .cells #[.slice none 0 0] 52 (0, 0)) (by (with_reducible repeat (first | refine blk_drewN ?_ _ | refine blk_drew ?_ | refine blk_alloc ?_ _)); exact BK308.out) hb); have n2_ := Aside0.mk (blk_below (g := gb310) (o := .cells #[.slice Ao33 x311000_1.length co33] 52 (0, 0)) (by (with_reducible repeat (first | refine blk_drewN ?_ _ | refine blk_drew ?_ | refine blk_alloc ?_ _)); exact BK310.out) hb); have n3_ := Aside0.mk (IsS103.below (by repeat (first | (with_reducible first | exact HI309.out | apply IsS103.alloc | apply IsS103.drewN | apply IsS103.drew | apply IsS103.set_0 | apply IsS103.set_1 | refine IsS103.far ?_ NB309_308.out _ | refine IsS103.far ?_ NB309_310.out _) | exact HI309.out)) hb); have n4_ := Aside0.mk (below_step (by repeat (first | (with_reducible first | exact HB.out | apply below_alloc | apply pw_below_drewN | apply below_drew1 | refine below_set ?_ (IsS103.ge HI309.out) | refine below_set ?_ GE308.out | refine below_set ?_ GE310.out) | exact HB.out)) hb); clear HO_311000; clear BK308; clear BK310; clear HI309; clear HB; have HO_311000 := n0_; have BK308 := n1_; have BK310 := n2_; have HI309 := n3_; have HB := n4_; clear n0_ n1_ n2_ n3_ n4_; (try clear hb); (try clear hb2); (try clear hk); (try clear hi); have hcz35_0 : w34.cell? ⟨gb310, 0, none⟩ = some (.slice Ao33 x311000_1.length co33) := (blk_cell BK310.out 0).trans rfl; have hfz35_0 := blk_frozen BK310.out 0; have hnb36 := NB308_309.out; have hnc36 := NB309_308.out; have hcz37_0 : w34.cell? ⟨gb308, 0, none⟩ = some (.slice none 0 0) := (blk_cell BK308.out 0).trans rfl; have hfz37_0 := blk_frozen BK308.out 0))
              refine bodyPost_ret (results_ct rfl _ _ gb308 52 #[.slice Ao33 x311000_1.length co33] (0, 0) _ rfl (by (with_reducible repeat (first | refine blk_drewN ?_ _ | refine blk_drew ?_ | refine blk_alloc ?_ _)); refine blk_put (cs := #[.slice none 0 0]) ?_ 0 _ rfl; (with_reducible repeat (first | refine blk_drewN ?_ _ | refine blk_drew ?_ | refine blk_alloc ?_ _)); exact BK308.out) Try.underlying52 rfl (by kernel_rfl)) rfl ?_
              exact ⟨_, by first | rfl | (simp [errW_none, errW_some] <;> rfl) | (simp [*, errW_none, errW_some] <;> rfl), by (with_reducible repeat (first | apply Kd.R_alloc | apply Kd.R_drewN | apply Kd.R_drew)); exact Kd.R_mono (Kd.R_far (p := ⟨gb308, 0, none⟩) (Kd.R_types HO_311000.out BK308.out (by decide)) (fun _ hk => hk.2) (.slice Ao33 x311000_1.length co33)) (fun _ hk => trivial), by repeat (first | (with_reducible first | exact HB.out | apply below_alloc | apply pw_below_drewN | apply below_drew1 | refine below_set ?_ (IsS103.ge HI309.out) | refine below_set ?_ GE308.out | refine below_set ?_ GE310.out) | exact HB.out)⟩
            · replace c28 := Bool.eq_false_iff.mpr c28
              subst c28
              have H1 : (some (([] : List ByteArray), false)) = some (r1, r2) := by rw [if_neg (show ¬ (false = true) by decide)] at H; exact H
              clear H
              have H := H1
              clear H1
              simp only [Option.some.injEq, Prod.mk.injEq] at H
              obtain ⟨rfl, rfl⟩ := H
              obtain ⟨HGz38, hgz38⟩ := HI309.out
              have hcz38_0 := cellS103_0 HGz38
              have hcz38_1 := cellS103_1 HGz38
              have hfz38_0 := blk_frozen HGz38 0
              have hfz38_1 := blk_frozen HGz38 1
              clear HGz38 hgz38
              have hnb39 := NB310_308.out
              have hnc39 := NB308_310.out
              have hnb40 := NB310_309.out
              have hnc40 := NB309_310.out
              have hcz41_0 : wr.cell? ⟨gb310, 0, none⟩ = some (u311000) := (blk_cell BK310.out 0).trans rfl
              have hfz41_0 := blk_frozen BK310.out 0
              obtain ⟨Ao42, co42, eo42⟩ := Kd.R_slice HO_311000.out
              subst eo42
              go_wp2_with (first | (go_at_call 78; (with_reducible refine (impl_ValidHeap.calls k1 _ _ x311000_1 false _ ?side1 ?side2 A27.out).mono ?_); (case side1 => repeat (first | exact (Kd.R_reads' HO_311000.out).2.2 | (with_reducible refine Kd.C_alloc ?_ _) | (with_reducible refine Kd.C_drewN ?_ _) | (with_reducible refine Kd.C_drew ?_))); (case side2 => exact (Kd.R_reads' HO_311000.out).2.1); rintro e w43 ⟨rfl, hb⟩; have n0_ := Aside0.mk (Kd.R_below (by (with_reducible repeat (first | apply Kd.R_alloc | apply Kd.R_drewN | apply Kd.R_drew)); exact HO_311000.out) hb); have n1_ := Aside0.mk (blk_below (g := gb308) (o := .cells #[.slice none 0 0] 52 (0, 0)) (by (with_reducible repeat (first | refine blk_drewN ?_ _ | refine blk_drew ?_ | refine blk_alloc ?_ _)); exact BK308.out) hb); have n2_ := Aside0.mk (blk_below (g := gb310) (o := .cells #[.slice Ao42 x311000_1.length co42] 52 (0, 0)) (by (with_reducible repeat (first | refine blk_drewN ?_ _ | refine blk_drew ?_ | refine blk_alloc ?_ _)); exact BK310.out) hb); have n3_ := Aside0.mk (IsS103.below (by repeat (first | (with_reducible first | exact HI309.out | apply IsS103.alloc | apply IsS103.drewN | apply IsS103.drew | apply IsS103.set_0 | apply IsS103.set_1 | refine IsS103.far ?_ NB309_308.out _ | refine IsS103.far ?_ NB309_310.out _) | exact HI309.out)) hb); have n4_ := Aside0.mk (below_step (by repeat (first | (with_reducible first | exact HB.out | apply below_alloc | apply pw_below_drewN | apply below_drew1 | refine below_set ?_ (IsS103.ge HI309.out) | refine below_set ?_ GE308.out | refine below_set ?_ GE310.out) | exact HB.out)) hb); clear HO_311000; clear BK308; clear BK310; clear HI309; clear HB; have HO_311000 := n0_; have BK308 := n1_; have BK310 := n2_; have HI309 := n3_; have HB := n4_; clear n0_ n1_ n2_ n3_ n4_; (try clear hb); (try clear hb2); (try clear hk); (try clear hi); have hnb44 := NB308_309.out; have hnc44 := NB309_308.out; have hcz45_0 : w43.cell? ⟨gb308, 0, none⟩ = some (.slice none 0 0) := (blk_cell BK308.out 0).trans rfl; have hfz45_0 := blk_frozen BK308.out 0))
              refine bodyPost_ret (results_ct rfl _ _ gb308 52 #[.slice none 0 0] (0, 0) _ rfl (by (with_reducible repeat (first | refine blk_drewN ?_ _ | refine blk_drew ?_ | refine blk_alloc ?_ _)); refine blk_put (cs := #[.slice none 0 0]) ?_ 0 _ rfl; (with_reducible repeat (first | refine blk_drewN ?_ _ | refine blk_drew ?_ | refine blk_alloc ?_ _)); exact BK308.out) Try.underlying52 rfl (by kernel_rfl)) rfl ?_
              exact ⟨_, by first | rfl | (simp [errW_none, errW_some] <;> rfl) | (simp [*, errW_none, errW_some] <;> rfl), by first | exact Kd.R_nil _ _ _ _ _ | exact Kd.N_nil _ _ _ _ _ | exact Kd.V_nil _ _ _ _ _ | exact Kd.Q_nil _ _ _ _ _ | exact Kd.S_nil _ _ _ _ _, by repeat (first | (with_reducible first | exact HB.out | apply below_alloc | apply pw_below_drewN | apply below_drew1 | refine below_set ?_ (IsS103.ge HI309.out) | refine below_set ?_ GE308.out | refine below_set ?_ GE310.out) | exact HB.out)⟩
          · rw [if_neg c26] at H
            have c26b0 : (x310000_1.toList == ([] : List UInt8)) = false := beq_eq_false_iff_ne.mpr c26
            have c26b1 : (x310000_1.toList != ([] : List UInt8)) = true := bne_iff_ne.mpr c26
            simp only [Option.some.injEq, Prod.mk.injEq] at H
            obtain ⟨rfl, rfl⟩ := H
            obtain ⟨HGz46, hgz46⟩ := HI309.out
            have hcz46_0 := cellS103_0 HGz46
            have hcz46_1 := cellS103_1 HGz46
            have hfz46_0 := blk_frozen HGz46 0
            have hfz46_1 := blk_frozen HGz46 1
            clear HGz46 hgz46
            have hnb47 := NB308_310.out
            have hnc47 := NB310_308.out
            have hnb48 := NB308_309.out
            have hnc48 := NB309_308.out
            have hcz49_0 : wr.cell? ⟨gb308, 0, none⟩ = some (.slice none 0 0) := (blk_cell BK308.out 0).trans rfl
            have hfz49_0 := blk_frozen BK308.out 0
            go_wp2
            refine bodyPost_ret (results_ct rfl _ _ gb308 52 #[.slice none 0 0] (0, 0) _ rfl (by (with_reducible repeat (first | refine blk_drewN ?_ _ | refine blk_drew ?_ | refine blk_alloc ?_ _)); refine blk_put (cs := #[.slice none 0 0]) ?_ 0 _ rfl; (with_reducible repeat (first | refine blk_drewN ?_ _ | refine blk_drew ?_ | refine blk_alloc ?_ _)); exact BK308.out) Try.underlying52 rfl (by kernel_rfl)) rfl ?_
            exact ⟨_, by first | rfl | (simp [errW_none, errW_some] <;> rfl) | (simp [*, errW_none, errW_some] <;> rfl), by first | exact Kd.R_nil _ _ _ _ _ | exact Kd.N_nil _ _ _ _ _ | exact Kd.V_nil _ _ _ _ _ | exact Kd.Q_nil _ _ _ _ _ | exact Kd.S_nil _ _ _ _ _, by repeat (first | (with_reducible first | exact HB.out | apply below_alloc | apply pw_below_drewN | apply below_drew1 | refine below_set ?_ (IsS103.ge HI309.out) | refine below_set ?_ GE308.out | refine below_set ?_ GE310.out) | exact HB.out)⟩

end Go.Proofs.Ytejjlklecmdpiaa.PFnHeap
