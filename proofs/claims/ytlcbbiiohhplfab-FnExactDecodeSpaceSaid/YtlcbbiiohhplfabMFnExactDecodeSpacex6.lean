/- Laid by a program of this session (mend.py) out of the text that print.sh wrote for this claim: renamed, and mended where it fell in Lean. -/
import Derived.Test.YtlcbbiiohhplfabMFnExactDecodeSpacex0
import Derived.Test.YtlcbbiiohhplfabMFnExactDecodeSpacex2
import Derived.Test.YtlcbbiiohhplfabMFnExactDecodeSpacex5
namespace Go.Proofs.Ytlcbbiiohhplfab.PFnExactDecodeSpace
open Go.RowKit Go.Proofs.YtlcbbiiohhplfabW.PrintWords Go.Proofs.YtlcbbiiohhplfabW.PrintLast Go.Proofs.YtlcbbiiohhplfabW.PrintMore
attribute [local go_sem] max2_int min2_int max_two min_two max_three min_three max_four min_four   -- for this text's walks alone
set_option linter.unusedVariables false
set_option linter.unusedSimpArgs false

/-! ### laws_heldInt64S: function 49 -/
def laws_heldInt64S.l0 : Nat → List Int → Int → Int → Option (Int)
  | 0, _, _, _ => none
  | k + 1, x0, x1, x5 => if x5 < (x0.length : Int) then (if 0 ≤ x5 then (if (rd x0 x5) = x1 then (laws_heldInt64S.l0 k x0 (wrap64 (x1 + 1)) (wrap64 (x5 + 1))) else (some (-1))) else (none)) else (some x1)
def laws_heldInt64S.f (k : Nat) (l0 : List Int) (a1 : Int) : Option (Int) := laws_heldInt64S.l0 k l0 a1 0
theorem laws_heldInt64S.mono_l : ∀ k, (∀ y0 y1 y2, LeO (laws_heldInt64S.l0 k y0 y1 y2) (laws_heldInt64S.l0 (k + 1) y0 y1 y2))
  | 0 => fun _ _ _ r h => by simp [laws_heldInt64S.l0] at h
  | k + 1 => by
    have ih0 := laws_heldInt64S.mono_l k
    · intro y0 y1 y2
      unfold laws_heldInt64S.l0
      repeat' first
      | (with_reducible exact ih0 _ _ _)
      | (with_reducible exact LeO.refl _)
      | (with_reducible exact LeO.none _)
      | (with_reducible refine LeO.ite ?_ ?_)
      | (with_reducible refine LeO.bind ?_ (fun _ => ?_))
      | exact ih0 _ _ _
      | exact LeO.none _
      | refine LeO.ite ?_ ?_
      | refine LeO.bind ?_ (fun _ => ?_)
theorem laws_heldInt64S.mono : ∀ a0 a1 k, LeO (laws_heldInt64S.f k a0 a1) (laws_heldInt64S.f (k + 1) a0 a1) := by
  intro a0 a1 k
  have ih0 := laws_heldInt64S.mono_l k
  unfold laws_heldInt64S.f
  repeat' first
      | (with_reducible exact ih0 _ _ _)
      | (with_reducible exact LeO.refl _)
      | (with_reducible exact LeO.none _)
      | (with_reducible refine LeO.ite ?_ ?_)
      | (with_reducible refine LeO.bind ?_ (fun _ => ?_))
      | exact ih0 _ _ _
      | exact LeO.none _
      | refine LeO.ite ?_ ?_
      | refine LeO.bind ?_ (fun _ => ?_)
set_option maxHeartbeats 8000000 in
set_option maxRecDepth 100000 in
theorem laws_heldInt64S.calls (k : Nat) (A0 : Option Addr) (c0 : Nat) (l0 : List Int) (a1 : Int) (r : Int) (w : World) (hr0 : Kd.C (Kd.int .i64) w A0 l0.length l0) (hc0 : l0.length ≤ c0) (h : laws_heldInt64S.f k l0 a1 = some r) :
    Calls Try.prog 49 #[.slice A0 l0.length c0, .int .i64 a1] w fun e w' => e = .returned (.int .i64 r) ∧ Drawn0 w w' := by
  have HR0 := Aside0.mk hr0
  have HC0 := Aside0.mk hc0
  clear hr0 hc0
  have H : (laws_heldInt64S.l0 k l0 a1 0) = some r := h
  clear h
  have H' := Aside0.mk H
  clear H
  go_enter Try.func49, Try.ntmps49
  go_wp2
  go_loopg [1, 5] k (fun kq v1 v5 w' => ∃ (x1_1 : Int) (x5_1 : Int), v1 = .int .i64 x1_1 ∧ v5 = .int .i64 x5_1 ∧ Aside0 (laws_heldInt64S.l0 kq l0 x1_1 x5_1 = some r) ∧ Aside0 (kq ≤ k) ∧ Drawn0 w w')
  case atStart => exact ⟨(a1), (0), (by first | rfl | (simp; done) | (simp [*]; done)), (by first | rfl | (simp; done) | (simp [*]; done)), H', ⟨Nat.le_refl _⟩, by repeat (first | exact Drawn0.refl _ | apply Drawn0.step)⟩
  case round =>
    clear H'
    try clear p2
    obtain ⟨x1_1, x5_1, rfl, rfl, HA, HK1, ⟨m1, rfl⟩⟩ := hrel
    cases gk with
    | zero => exact absurd HA.out (by simp [laws_heldInt64S.l0])
    | succ k1 =>
      have H := HA.out
      clear HA
      simp only [laws_heldInt64S.l0] at H
      by_cases c3 : x5_1 < (l0.length : Int)
      · rw [if_pos c3] at H
        have c3b0 : decide (x5_1 < (l0.length : Int)) = true := decide_eq_true c3
        clear c3
        by_cases c4 : 0 ≤ x5_1
        · rw [if_pos c4] at H
          have c4b0 : decide (0 ≤ x5_1) = true := decide_eq_true c4
          clear c4
          by_cases c5 : (rd l0 x5_1) = x1_1
          · rw [if_pos c5] at H
            have c5b0 : ((rd l0 x5_1) == x1_1) = true := beq_iff_eq.mpr c5
            have c5b1 : ((rd l0 x5_1) != x1_1) = false := bne_eq_false_iff_eq.mpr c5
            clear c5
            have H' := Aside0.mk H
            clear H
            have p212 : 0 ≤ (x5_1 : Int) := of_decide_eq_true (by first | (with_reducible assumption) | assumption)
            have q212 : x5_1 < (l0.length : Int) := of_decide_eq_true (by first | (with_reducible assumption) | assumption)
            obtain ⟨ad212, e212, hx212_0⟩ := Kd.at_int HR0.out x5_1 p212 q212
            cases e212
            replace p212 := eq_true p212
            replace q212 := eq_true q212
            go_wp2
            go_roundg k1
            case measure => have := HK1.out; omega
            case rel => exact ⟨(wrap64 (x1_1 + 1)), (wrap64 (x5_1 + 1)), (by first | rfl | (simp; done) | (simp [*]; done)), (by first | rfl | (simp; done) | (simp [*]; done)), H', ⟨by have := HK1.out; omega⟩, by repeat (first | exact Drawn0.refl _ | apply Drawn0.step)⟩
          · rw [if_neg c5] at H
            have c5b0 : ((rd l0 x5_1) == x1_1) = false := beq_eq_false_iff_ne.mpr c5
            have c5b1 : ((rd l0 x5_1) != x1_1) = true := bne_iff_ne.mpr c5
            obtain rfl := Option.some.inj H
            have p212 : 0 ≤ (x5_1 : Int) := of_decide_eq_true (by first | (with_reducible assumption) | assumption)
            have q212 : x5_1 < (l0.length : Int) := of_decide_eq_true (by first | (with_reducible assumption) | assumption)
            obtain ⟨ad212, e212, hx212_0⟩ := Kd.at_int HR0.out x5_1 p212 q212
            cases e212
            replace p212 := eq_true p212
            replace q212 := eq_true q212
            go_wp2
            go_ret
            exact ⟨by first | rfl | (simp; done) | (simp [*]; done), by repeat (first | exact Drawn0.refl _ | apply Drawn0.step)⟩
        · rw [if_neg c4] at H
          exact absurd H (by simp)
      · rw [if_neg c3] at H
        have c3b0 : decide (x5_1 < (l0.length : Int)) = false := decide_eq_false c3
        clear c3
        obtain rfl := Option.some.inj H
        go_wp2
        go_ret
        exact ⟨by first | rfl | (simp; done) | (simp [*]; done), by repeat (first | exact Drawn0.refl _ | apply Drawn0.step)⟩

/-! ### laws_heldSpace: function 20 -/
def laws_heldSpace.f (k : Nat) (l0_0 : List Int) (l0_1 : List Int) (a1 : Int) : Option (Int) := (laws_heldInt64S.f k l0_0 a1).bind fun t214 => (if t214 < 0 then (some (-1)) else ((laws_heldInt64S.f k l0_1 t214).bind fun t215 => (if t215 < 0 then (some (-1)) else (some t215))))
theorem laws_heldSpace.mono : ∀ a0 a1 a2 k, LeO (laws_heldSpace.f k a0 a1 a2) (laws_heldSpace.f (k + 1) a0 a1 a2) := by
  intro a0 a1 a2 k
  unfold laws_heldSpace.f
  repeat' first
      | (with_reducible exact laws_heldInt64S.mono _ _ _)
      | (with_reducible exact LeO.refl _)
      | (with_reducible exact LeO.none _)
      | (with_reducible refine LeO.ite ?_ ?_)
      | (with_reducible refine LeO.bind ?_ (fun _ => ?_))
      | exact laws_heldInt64S.mono _ _ _
      | exact LeO.none _
      | refine LeO.ite ?_ ?_
      | refine LeO.bind ?_ (fun _ => ?_)
set_option maxHeartbeats 8000000 in
set_option maxRecDepth 100000 in
theorem laws_heldSpace.calls (k : Nat) (A0_0 : Option Addr) (c0_0 : Nat) (l0_0 : List Int) (A0_1 : Option Addr) (c0_1 : Nat) (l0_1 : List Int) (a1 : Int) (r : Int) (w : World) (hr0_0 : Kd.C (Kd.int .i64) w A0_0 l0_0.length l0_0) (hc0_0 : l0_0.length ≤ c0_0) (hr0_1 : Kd.C (Kd.int .i64) w A0_1 l0_1.length l0_1) (hc0_1 : l0_1.length ≤ c0_1) (h : laws_heldSpace.f k l0_0 l0_1 a1 = some r) :
    Calls Try.prog 20 #[.agg #[.slice A0_0 l0_0.length c0_0, .slice A0_1 l0_1.length c0_1], .int .i64 a1] w fun e w' => e = .returned (.int .i64 r) ∧ Below w.heap.size w w' := by
  have hu36 := Try.underlying36
  have HR0_0 := Aside0.mk hr0_0
  have HC0_0 := Aside0.mk hc0_0
  clear hr0_0 hc0_0
  have HR0_1 := Aside0.mk hr0_1
  have HC0_1 := Aside0.mk hc0_1
  clear hr0_1 hc0_1
  have HB := Aside0.mk (Below.refl w.heap.size w)
  have H : ((laws_heldInt64S.f k l0_0 a1).bind fun t214 => (if t214 < 0 then (some (-1)) else ((laws_heldInt64S.f k l0_1 t214).bind fun t215 => (if t215 < 0 then (some (-1)) else (some t215))))) = some r := h
  clear h
  replace H := Option.bind_eq_some_iff.mp H
  obtain ⟨t214, A30, H⟩ := H
  replace H : (if t214 < 0 then (some (-1)) else ((laws_heldInt64S.f k l0_1 t214).bind fun t215 => (if t215 < 0 then (some (-1)) else (some t215)))) = some r := H
  have A3 := Aside0.mk A30
  clear A30
  by_cases c4 : t214 < 0
  · rw [if_pos c4] at H
    have c4b0 : decide (t214 < 0) = true := decide_eq_true c4
    clear c4
    obtain rfl := Option.some.inj H
    go_enter Try.func20, Try.ntmps20
    go_wp2_with (first | ((with_reducible refine gate_dst (N := 2) rfl ?_); refine box_event ?hg (N := 2) ?hd (cs := #[.slice A0_0 l0_0.length c0_0, .slice A0_1 l0_1.length c0_1]) (t := 36) ?hr ?_; (case hd => rfl); (case hg => rfl); (case hr => first | (go_simp; done) | (go_simp; rfl)); intro gb213 hg w5 hbox hb; have n0_ := Aside0.mk (below_step (by repeat (first | (with_reducible first | exact HB.out | apply below_alloc | apply pw_below_drewN | apply below_drew1) | exact HB.out)) hb); have n1_ := Aside0.mk (hbox); have n2_ := Aside0.mk ((by rw [hg]; exact (below_size (by repeat (first | (with_reducible first | exact HB.out | apply below_alloc | apply pw_below_drewN | apply below_drew1) | exact HB.out))) : w.heap.size ≤ gb213)); have n3_ := Aside0.mk ((by rw [hg]; exact (below_size (by repeat (first | (with_reducible first | exact HB.out | apply below_alloc | apply pw_below_drewN | apply below_drew1) | exact HB.out))) : w.heap.size ≤ gb213)); clear HB; have HB := n0_; have BK213 := n1_; have GW213 := n2_; have GE213 := n3_; clear n0_ n1_ n2_ n3_; clear hb hbox hg; have hcz6_0 : w5.cell? ⟨gb213, 0, none⟩ = some (.slice A0_0 l0_0.length c0_0) := (blk_cell BK213.out 0).trans rfl; have hcz6_1 : w5.cell? ⟨gb213, 1, none⟩ = some (.slice A0_1 l0_1.length c0_1) := (blk_cell BK213.out 1).trans rfl; have hfz6_0 := blk_frozen BK213.out 0; have hfz6_1 := blk_frozen BK213.out 1) | ((with_reducible refine gate_callee (f := 49) rfl ?_); refine goesL_ (some 8) rfl rfl Try.func49 (by kernel_rfl) rfl #[.slice A0_0 l0_0.length c0_0, .int .i64 a1] rfl (by (try simp only [List.map_toArray, List.map_cons, List.map_nil]); first | done | rfl | (simp only [List.length_drop, List.length_take]; rfl)) ?_; (with_reducible refine (laws_heldInt64S.calls k _ _ l0_0 a1 t214 _ ?side1 ?side2 A3.out).mono ?_); (case side1 => repeat (first | exact (Kd.C_below HR0_0.out HB.out) | (with_reducible refine Kd.C_alloc ?_ _) | (with_reducible refine Kd.C_drewN ?_ _) | (with_reducible refine Kd.C_drew ?_))); (case side2 => exact HC0_0.out); rintro e w' ⟨rfl, ⟨nd, rfl⟩⟩; refine ⟨_, rfl, ?_⟩))
    go_ret
    exact ⟨by first | rfl | (simp [errW_none, errW_some] <;> rfl) | (simp [*, errW_none, errW_some] <;> rfl), by repeat (first | (with_reducible first | exact HB.out | apply below_alloc | apply pw_below_drewN | apply below_drew1 | refine below_set ?_ GE213.out) | exact HB.out)⟩
  · rw [if_neg c4] at H
    have c4b0 : decide (t214 < 0) = false := decide_eq_false c4
    clear c4
    replace H := Option.bind_eq_some_iff.mp H
    obtain ⟨t215, A70, H⟩ := H
    replace H : (if t215 < 0 then (some (-1)) else (some t215)) = some r := H
    have A7 := Aside0.mk A70
    clear A70
    by_cases c8 : t215 < 0
    · rw [if_pos c8] at H
      have c8b0 : decide (t215 < 0) = true := decide_eq_true c8
      clear c8
      obtain rfl := Option.some.inj H
      go_enter Try.func20, Try.ntmps20
      go_wp2_with (first | ((with_reducible refine gate_dst (N := 2) rfl ?_); refine box_event ?hg (N := 2) ?hd (cs := #[.slice A0_0 l0_0.length c0_0, .slice A0_1 l0_1.length c0_1]) (t := 36) ?hr ?_; (case hd => rfl); (case hg => rfl); (case hr => first | (go_simp; done) | (go_simp; rfl)); intro gb213 hg w9 hbox hb; have n0_ := Aside0.mk (below_step (by repeat (first | (with_reducible first | exact HB.out | apply below_alloc | apply pw_below_drewN | apply below_drew1) | exact HB.out)) hb); have n1_ := Aside0.mk (hbox); have n2_ := Aside0.mk ((by rw [hg]; exact (below_size (by repeat (first | (with_reducible first | exact HB.out | apply below_alloc | apply pw_below_drewN | apply below_drew1) | exact HB.out))) : w.heap.size ≤ gb213)); have n3_ := Aside0.mk ((by rw [hg]; exact (below_size (by repeat (first | (with_reducible first | exact HB.out | apply below_alloc | apply pw_below_drewN | apply below_drew1) | exact HB.out))) : w.heap.size ≤ gb213)); clear HB; have HB := n0_; have BK213 := n1_; have GW213 := n2_; have GE213 := n3_; clear n0_ n1_ n2_ n3_; clear hb hbox hg; have hcz10_0 : w9.cell? ⟨gb213, 0, none⟩ = some (.slice A0_0 l0_0.length c0_0) := (blk_cell BK213.out 0).trans rfl; have hcz10_1 : w9.cell? ⟨gb213, 1, none⟩ = some (.slice A0_1 l0_1.length c0_1) := (blk_cell BK213.out 1).trans rfl; have hfz10_0 := blk_frozen BK213.out 0; have hfz10_1 := blk_frozen BK213.out 1) | ((with_reducible refine gate_callee (f := 49) rfl ?_); refine goesL_ (some 8) rfl rfl Try.func49 (by kernel_rfl) rfl #[.slice A0_0 l0_0.length c0_0, .int .i64 a1] rfl (by (try simp only [List.map_toArray, List.map_cons, List.map_nil]); first | done | rfl | (simp only [List.length_drop, List.length_take]; rfl)) ?_; (with_reducible refine (laws_heldInt64S.calls k _ _ l0_0 a1 t214 _ ?side1 ?side2 A3.out).mono ?_); (case side1 => repeat (first | exact (Kd.C_below HR0_0.out HB.out) | (with_reducible refine Kd.C_alloc ?_ _) | (with_reducible refine Kd.C_drewN ?_ _) | (with_reducible refine Kd.C_drew ?_))); (case side2 => exact HC0_0.out); rintro e w' ⟨rfl, ⟨nd, rfl⟩⟩; refine ⟨_, rfl, ?_⟩) | ((with_reducible refine gate_callee (f := 49) rfl ?_); refine goesL_ (some 14) rfl rfl Try.func49 (by kernel_rfl) rfl #[.slice A0_1 l0_1.length c0_1, .int .i64 t214] rfl (by (try simp only [List.map_toArray, List.map_cons, List.map_nil]); first | done | rfl | (simp only [List.length_drop, List.length_take]; rfl)) ?_; (with_reducible refine (laws_heldInt64S.calls k _ _ l0_1 t214 t215 _ ?side1 ?side2 A7.out).mono ?_); (case side1 => repeat (first | exact (Kd.C_below HR0_1.out (by repeat (first | (with_reducible first | exact HB.out | apply below_alloc | apply pw_below_drewN | apply below_drew1 | refine below_set ?_ GE213.out) | exact HB.out))) | (with_reducible refine Kd.C_alloc ?_ _) | (with_reducible refine Kd.C_drewN ?_ _) | (with_reducible refine Kd.C_drew ?_))); (case side2 => exact HC0_1.out); rintro e w' ⟨rfl, ⟨nd, rfl⟩⟩; refine ⟨_, rfl, ?_⟩))
      go_ret
      exact ⟨by first | rfl | (simp [errW_none, errW_some] <;> rfl) | (simp [*, errW_none, errW_some] <;> rfl), by repeat (first | (with_reducible first | exact HB.out | apply below_alloc | apply pw_below_drewN | apply below_drew1 | refine below_set ?_ GE213.out) | exact HB.out)⟩
    · rw [if_neg c8] at H
      have c8b0 : decide (t215 < 0) = false := decide_eq_false c8
      clear c8
      obtain rfl := Option.some.inj H
      go_enter Try.func20, Try.ntmps20
      go_wp2_with (first | ((with_reducible refine gate_dst (N := 2) rfl ?_); refine box_event ?hg (N := 2) ?hd (cs := #[.slice A0_0 l0_0.length c0_0, .slice A0_1 l0_1.length c0_1]) (t := 36) ?hr ?_; (case hd => rfl); (case hg => rfl); (case hr => first | (go_simp; done) | (go_simp; rfl)); intro gb213 hg w11 hbox hb; have n0_ := Aside0.mk (below_step (by repeat (first | (with_reducible first | exact HB.out | apply below_alloc | apply pw_below_drewN | apply below_drew1) | exact HB.out)) hb); have n1_ := Aside0.mk (hbox); have n2_ := Aside0.mk ((by rw [hg]; exact (below_size (by repeat (first | (with_reducible first | exact HB.out | apply below_alloc | apply pw_below_drewN | apply below_drew1) | exact HB.out))) : w.heap.size ≤ gb213)); have n3_ := Aside0.mk ((by rw [hg]; exact (below_size (by repeat (first | (with_reducible first | exact HB.out | apply below_alloc | apply pw_below_drewN | apply below_drew1) | exact HB.out))) : w.heap.size ≤ gb213)); clear HB; have HB := n0_; have BK213 := n1_; have GW213 := n2_; have GE213 := n3_; clear n0_ n1_ n2_ n3_; clear hb hbox hg; have hcz12_0 : w11.cell? ⟨gb213, 0, none⟩ = some (.slice A0_0 l0_0.length c0_0) := (blk_cell BK213.out 0).trans rfl; have hcz12_1 : w11.cell? ⟨gb213, 1, none⟩ = some (.slice A0_1 l0_1.length c0_1) := (blk_cell BK213.out 1).trans rfl; have hfz12_0 := blk_frozen BK213.out 0; have hfz12_1 := blk_frozen BK213.out 1) | ((with_reducible refine gate_callee (f := 49) rfl ?_); refine goesL_ (some 8) rfl rfl Try.func49 (by kernel_rfl) rfl #[.slice A0_0 l0_0.length c0_0, .int .i64 a1] rfl (by (try simp only [List.map_toArray, List.map_cons, List.map_nil]); first | done | rfl | (simp only [List.length_drop, List.length_take]; rfl)) ?_; (with_reducible refine (laws_heldInt64S.calls k _ _ l0_0 a1 t214 _ ?side1 ?side2 A3.out).mono ?_); (case side1 => repeat (first | exact (Kd.C_below HR0_0.out HB.out) | (with_reducible refine Kd.C_alloc ?_ _) | (with_reducible refine Kd.C_drewN ?_ _) | (with_reducible refine Kd.C_drew ?_))); (case side2 => exact HC0_0.out); rintro e w' ⟨rfl, ⟨nd, rfl⟩⟩; refine ⟨_, rfl, ?_⟩) | ((with_reducible refine gate_callee (f := 49) rfl ?_); refine goesL_ (some 14) rfl rfl Try.func49 (by kernel_rfl) rfl #[.slice A0_1 l0_1.length c0_1, .int .i64 t214] rfl (by (try simp only [List.map_toArray, List.map_cons, List.map_nil]); first | done | rfl | (simp only [List.length_drop, List.length_take]; rfl)) ?_; (with_reducible refine (laws_heldInt64S.calls k _ _ l0_1 t214 t215 _ ?side1 ?side2 A7.out).mono ?_); (case side1 => repeat (first | exact (Kd.C_below HR0_1.out (by repeat (first | (with_reducible first | exact HB.out | apply below_alloc | apply pw_below_drewN | apply below_drew1 | refine below_set ?_ GE213.out) | exact HB.out))) | (with_reducible refine Kd.C_alloc ?_ _) | (with_reducible refine Kd.C_drewN ?_ _) | (with_reducible refine Kd.C_drew ?_))); (case side2 => exact HC0_1.out); rintro e w' ⟨rfl, ⟨nd, rfl⟩⟩; refine ⟨_, rfl, ?_⟩))
      go_ret
      exact ⟨by first | rfl | (simp [errW_none, errW_some] <;> rfl) | (simp [*, errW_none, errW_some] <;> rfl), by repeat (first | (with_reducible first | exact HB.out | apply below_alloc | apply pw_below_drewN | apply below_drew1 | refine below_set ?_ GE213.out) | exact HB.out)⟩

/-! ### laws_FnExactDecodeSpace: function 5 -/
mutual
def laws_FnExactDecodeSpace.j0 : Nat → ByteArray → Bool → Bool → List Int → List Int → List Int → List Int → Option (Bool)
  | 0, _, _, _, _, _, _, _ => none
  | k + 1, x0, x4, x32, x224000, x224001, x232000, x232001 => if x32 = true then (some false) else ((laws_markSpace.f k x232000 x232001 1).bind fun bt233 => ((laws_heldSpace.f k bt233.2.1 bt233.2.2 1).bind fun t236 => (if t236 < 0 then (some false) else (if t236 = bt233.1 then ((impl_DecodeSpace.f k x0).bind fun bt237 => ((laws_eqSpace.f k bt237.1 bt237.2.1 x224000 x224001).bind fun t245 => (if t245 = true then (laws_FnExactDecodeSpace.j1 k bt233.1 (bt237.2.2 != x4) bt233.2.1 bt233.2.2) else (laws_FnExactDecodeSpace.j1 k bt233.1 true bt233.2.1 bt233.2.2)))) else (some false)))))
def laws_FnExactDecodeSpace.j1 : Nat → Int → Bool → List Int → List Int → Option (Bool)
  | 0, _, _, _, _ => none
  | k + 1, x7, x57, x232000, x232001 => if x57 = true then (some false) else ((laws_heldSpace.f k x232000 x232001 1).bind fun t246 => (if t246 < 0 then (some false) else (if t246 = x7 then (some true) else (some false))))
end
def laws_FnExactDecodeSpace.f (k : Nat) (a0 : ByteArray) : Option (Bool) := if (a0.size : Int) > 1048576 then (some true) else ((spec_DecodeSpace.f k a0).bind fun bt216 => ((impl_DecodeSpace.f k a0).bind fun bt224 => ((laws_eqSpace.f k bt224.1 bt224.2.1 bt216.1 bt216.2.1).bind fun t232 => (if t232 = true then (laws_FnExactDecodeSpace.j0 k a0 bt216.2.2 (bt224.2.2 != bt216.2.2) bt216.1 bt216.2.1 bt224.1 bt224.2.1) else (laws_FnExactDecodeSpace.j0 k a0 bt216.2.2 true bt216.1 bt216.2.1 bt224.1 bt224.2.1)))))
theorem laws_FnExactDecodeSpace.mono_l : ∀ k, (∀ y0 y1 y2 y3 y4 y5 y6, LeO (laws_FnExactDecodeSpace.j0 k y0 y1 y2 y3 y4 y5 y6) (laws_FnExactDecodeSpace.j0 (k + 1) y0 y1 y2 y3 y4 y5 y6)) ∧ (∀ y0 y1 y2 y3, LeO (laws_FnExactDecodeSpace.j1 k y0 y1 y2 y3) (laws_FnExactDecodeSpace.j1 (k + 1) y0 y1 y2 y3))
  | 0 => ⟨fun _ _ _ _ _ _ _ r h => by simp [laws_FnExactDecodeSpace.j0] at h, fun _ _ _ _ r h => by simp [laws_FnExactDecodeSpace.j1] at h⟩
  | k + 1 => by
    obtain ⟨ih0, ih1⟩ := laws_FnExactDecodeSpace.mono_l k
    refine ⟨?_, ?_⟩
    · intro y0 y1 y2 y3 y4 y5 y6
      unfold laws_FnExactDecodeSpace.j0
      repeat' first
      | (with_reducible exact ih0 _ _ _ _ _ _ _)
      | (with_reducible exact ih1 _ _ _ _)
      | (with_reducible exact impl_DecodeSpace.mono _ _)
      | (with_reducible exact laws_eqSpace.mono _ _ _ _ _)
      | (with_reducible exact laws_heldSpace.mono _ _ _ _)
      | (with_reducible exact laws_markSpace.mono _ _ _ _)
      | (with_reducible exact spec_DecodeSpace.mono _ _)
      | (with_reducible exact LeO.refl _)
      | (with_reducible exact LeO.none _)
      | (with_reducible refine LeO.ite ?_ ?_)
      | (with_reducible refine LeO.bind ?_ (fun _ => ?_))
      | exact ih0 _ _ _ _ _ _ _
      | exact ih1 _ _ _ _
      | exact impl_DecodeSpace.mono _ _
      | exact laws_eqSpace.mono _ _ _ _ _
      | exact laws_heldSpace.mono _ _ _ _
      | exact laws_markSpace.mono _ _ _ _
      | exact spec_DecodeSpace.mono _ _
      | exact LeO.none _
      | refine LeO.ite ?_ ?_
      | refine LeO.bind ?_ (fun _ => ?_)
    · intro y0 y1 y2 y3
      unfold laws_FnExactDecodeSpace.j1
      repeat' first
      | (with_reducible exact ih0 _ _ _ _ _ _ _)
      | (with_reducible exact ih1 _ _ _ _)
      | (with_reducible exact impl_DecodeSpace.mono _ _)
      | (with_reducible exact laws_eqSpace.mono _ _ _ _ _)
      | (with_reducible exact laws_heldSpace.mono _ _ _ _)
      | (with_reducible exact laws_markSpace.mono _ _ _ _)
      | (with_reducible exact spec_DecodeSpace.mono _ _)
      | (with_reducible exact LeO.refl _)
      | (with_reducible exact LeO.none _)
      | (with_reducible refine LeO.ite ?_ ?_)
      | (with_reducible refine LeO.bind ?_ (fun _ => ?_))
      | exact ih0 _ _ _ _ _ _ _
      | exact ih1 _ _ _ _
      | exact impl_DecodeSpace.mono _ _
      | exact laws_eqSpace.mono _ _ _ _ _
      | exact laws_heldSpace.mono _ _ _ _
      | exact laws_markSpace.mono _ _ _ _
      | exact spec_DecodeSpace.mono _ _
      | exact LeO.none _
      | refine LeO.ite ?_ ?_
      | refine LeO.bind ?_ (fun _ => ?_)
theorem laws_FnExactDecodeSpace.mono : ∀ a0 k, LeO (laws_FnExactDecodeSpace.f k a0) (laws_FnExactDecodeSpace.f (k + 1) a0) := by
  intro a0 k
  obtain ⟨ih0, ih1⟩ := laws_FnExactDecodeSpace.mono_l k
  unfold laws_FnExactDecodeSpace.f
  repeat' first
      | (with_reducible exact ih0 _ _ _ _ _ _ _)
      | (with_reducible exact ih1 _ _ _ _)
      | (with_reducible exact impl_DecodeSpace.mono _ _)
      | (with_reducible exact laws_eqSpace.mono _ _ _ _ _)
      | (with_reducible exact laws_heldSpace.mono _ _ _ _)
      | (with_reducible exact laws_markSpace.mono _ _ _ _)
      | (with_reducible exact spec_DecodeSpace.mono _ _)
      | (with_reducible exact LeO.refl _)
      | (with_reducible exact LeO.none _)
      | (with_reducible refine LeO.ite ?_ ?_)
      | (with_reducible refine LeO.bind ?_ (fun _ => ?_))
      | exact ih0 _ _ _ _ _ _ _
      | exact ih1 _ _ _ _
      | exact impl_DecodeSpace.mono _ _
      | exact laws_eqSpace.mono _ _ _ _ _
      | exact laws_heldSpace.mono _ _ _ _
      | exact laws_markSpace.mono _ _ _ _
      | exact spec_DecodeSpace.mono _ _
      | exact LeO.none _
      | refine LeO.ite ?_ ?_
      | refine LeO.bind ?_ (fun _ => ?_)
set_option maxHeartbeats 8000000 in
set_option maxRecDepth 100000 in
theorem laws_FnExactDecodeSpace.calls (k : Nat) (a0 : ByteArray) (r : Bool) (w : World) (h : laws_FnExactDecodeSpace.f k a0 = some r) :
    Calls Try.prog 5 #[.string a0] w fun e w' => e = .returned (.bool r) ∧ Below w.heap.size w w' := by
  have hu36 := Try.underlying36
  have HB := Aside0.mk (Below.refl w.heap.size w)
  have H : (if (a0.size : Int) > 1048576 then (some true) else ((spec_DecodeSpace.f k a0).bind fun bt216 => ((impl_DecodeSpace.f k a0).bind fun bt224 => ((laws_eqSpace.f k bt224.1 bt224.2.1 bt216.1 bt216.2.1).bind fun t232 => (if t232 = true then (laws_FnExactDecodeSpace.j0 k a0 bt216.2.2 (bt224.2.2 != bt216.2.2) bt216.1 bt216.2.1 bt224.1 bt224.2.1) else (laws_FnExactDecodeSpace.j0 k a0 bt216.2.2 true bt216.1 bt216.2.1 bt224.1 bt224.2.1)))))) = some r := h
  clear h
  by_cases c2 : (a0.size : Int) > 1048576
  · rw [if_pos c2] at H
    have c2b0 : decide (1048576 < (a0.size : Int)) = true := decide_eq_true c2
    have c2b1 : decide (1048576 < a0.size) = true := decide_eq_true (by omega)
    clear c2
    obtain rfl := Option.some.inj H
    go_enter Try.func5, Try.ntmps5
    go_wp2
    go_ret
    exact ⟨by first | rfl | (simp [errW_none, errW_some] <;> rfl) | (simp [*, errW_none, errW_some] <;> rfl), by repeat (first | (with_reducible first | exact HB.out | apply below_alloc | apply pw_below_drewN | apply below_drew1) | exact HB.out)⟩
  · rw [if_neg c2] at H
    have c2b0 : decide (1048576 < (a0.size : Int)) = false := decide_eq_false c2
    have c2b1 : decide (1048576 < a0.size) = false := decide_eq_false (by omega)
    clear c2
    replace H := Option.bind_eq_some_iff.mp H
    obtain ⟨⟨t216, t219, t222⟩, A30, H⟩ := H
    replace H : ((impl_DecodeSpace.f k a0).bind fun bt224 => ((laws_eqSpace.f k bt224.1 bt224.2.1 t216 t219).bind fun t232 => (if t232 = true then (laws_FnExactDecodeSpace.j0 k a0 t222 (bt224.2.2 != t222) t216 t219 bt224.1 bt224.2.1) else (laws_FnExactDecodeSpace.j0 k a0 t222 true t216 t219 bt224.1 bt224.2.1)))) = some r := H
    have A3 := Aside0.mk A30
    clear A30
    replace H := Option.bind_eq_some_iff.mp H
    obtain ⟨⟨t224, t227, t230⟩, A40, H⟩ := H
    replace H : ((laws_eqSpace.f k t224 t227 t216 t219).bind fun t232 => (if t232 = true then (laws_FnExactDecodeSpace.j0 k a0 t222 (t230 != t222) t216 t219 t224 t227) else (laws_FnExactDecodeSpace.j0 k a0 t222 true t216 t219 t224 t227))) = some r := H
    have A4 := Aside0.mk A40
    clear A40
    have HC5 := Aside0.mk H
    clear H
    go_enter Try.func5, Try.ntmps5
    go_upto_region 5 with (first | ((with_reducible refine gate_callee (f := 16) rfl ?_); refine goesL_ (some 16) rfl rfl Try.func16 (by kernel_rfl) rfl #[.string a0] rfl (by (try simp only [List.map_toArray, List.map_cons, List.map_nil]); first | done | rfl | (simp only [List.length_drop, List.length_take]; rfl)) ?_; (with_reducible refine (spec_DecodeSpace.calls k a0 t216 t219 t222 _ A3.out).mono ?_); rintro e w6 ⟨v217, v220, rfl, ho0, ho1, hb⟩; refine ⟨_, rfl, ?_⟩; have n0_ := Aside0.mk (Kd.R_lower ho0 (below_size (by repeat (first | (with_reducible first | exact HB.out | apply below_alloc | apply pw_below_drewN | apply below_drew1) | exact HB.out)))); have n1_ := Aside0.mk (Kd.R_lower ho1 (below_size (by repeat (first | (with_reducible first | exact HB.out | apply below_alloc | apply pw_below_drewN | apply below_drew1) | exact HB.out)))); have n2_ := Aside0.mk (below_step (by repeat (first | (with_reducible first | exact HB.out | apply below_alloc | apply pw_below_drewN | apply below_drew1) | exact HB.out)) hb); clear HB; have HO218 := n0_; have HO221 := n1_; have HB := n2_; clear n0_ n1_ n2_; (try clear hb); (try clear hb2); (try clear hk); (try clear hi); (try clear ho0); (try clear ho1)) | ((with_reducible refine gate_dst (N := 3) rfl ?_); refine box_event ?hg (N := 3) ?hd (cs := #[.slice none 0 0, .slice none 0 0]) (t := 36) ?hr ?_; (case hd => rfl); (case hg => rfl); (case hr => first | (go_simp; done) | (go_simp; rfl)); intro gb223 hg w7 hbox hb; have n0_ := Aside0.mk (Kd.R_below (by (with_reducible repeat (first | apply Kd.R_alloc | apply Kd.R_drewN | apply Kd.R_drew)); exact HO218.out) hb); have n1_ := Aside0.mk (Kd.R_below (by (with_reducible repeat (first | apply Kd.R_alloc | apply Kd.R_drewN | apply Kd.R_drew)); exact HO221.out) hb); have n2_ := Aside0.mk (below_step (by repeat (first | (with_reducible first | exact HB.out | apply below_alloc | apply pw_below_drewN | apply below_drew1) | exact HB.out)) hb); have n3_ := Aside0.mk (hbox); have n4_ := Aside0.mk ((by rw [hg]; exact (below_size (by repeat (first | (with_reducible first | exact HB.out | apply below_alloc | apply pw_below_drewN | apply below_drew1) | exact HB.out))) : w.heap.size ≤ gb223)); have n5_ := Aside0.mk ((by rw [hg]; exact (below_size (by repeat (first | (with_reducible first | exact HB.out | apply below_alloc | apply pw_below_drewN | apply below_drew1) | exact HB.out))) : w.heap.size ≤ gb223)); clear HO218; clear HO221; clear HB; have HO218 := n0_; have HO221 := n1_; have HB := n2_; have BK223 := n3_; have GW223 := n4_; have GE223 := n5_; clear n0_ n1_ n2_ n3_ n4_ n5_; clear hb hbox hg; obtain ⟨Ao8, co8, eo8⟩ := Kd.R_slice HO218.out; subst eo8; have hcz9_0 : w7.cell? ⟨gb223, 0, none⟩ = some (.slice none 0 0) := (blk_cell BK223.out 0).trans rfl; have hcz9_1 : w7.cell? ⟨gb223, 1, none⟩ = some (.slice none 0 0) := (blk_cell BK223.out 1).trans rfl; have hfz9_0 := blk_frozen BK223.out 0; have hfz9_1 := blk_frozen BK223.out 1; obtain ⟨Ao10, co10, eo10⟩ := Kd.R_slice HO221.out; subst eo10) | ((with_reducible refine gate_callee (f := 17) rfl ?_); refine goesL_ (some 21) rfl rfl Try.func17 (by kernel_rfl) rfl #[.string a0] rfl (by (try simp only [List.map_toArray, List.map_cons, List.map_nil]); first | done | rfl | (simp only [List.length_drop, List.length_take]; rfl)) ?_; (with_reducible refine (impl_DecodeSpace.calls k a0 t224 t227 t230 _ A4.out).mono ?_); rintro e w11 ⟨v225, v228, rfl, ho0, ho1, hb⟩; refine ⟨_, rfl, ?_⟩; have n0_ := Aside0.mk (Kd.R_mono (Kd.R_told (Kd.R_told (Kd.R_old (by (with_reducible repeat (first | apply Kd.R_alloc | apply Kd.R_drewN | apply Kd.R_drew)); exact (Kd.R_mono (Kd.R_far (p := ⟨gb223, 1, none⟩) (Kd.R_far (p := ⟨gb223, 0, none⟩) (Kd.R_types HO218.out BK223.out (by decide)) (fun _ hk => hk.2) (.slice Ao8 t216.length co8)) (fun _ hk => hk.2) (.slice Ao10 t219.length co10)) (fun _ h_ => h_.1))) hb) (Kd.R_base ho0)) (Kd.R_base ho1)) (fun _ h_ => h_.1)); have n1_ := Aside0.mk (Kd.R_mono (Kd.R_told (Kd.R_told (Kd.R_old (by (with_reducible repeat (first | apply Kd.R_alloc | apply Kd.R_drewN | apply Kd.R_drew)); exact (Kd.R_mono (Kd.R_far (p := ⟨gb223, 1, none⟩) (Kd.R_far (p := ⟨gb223, 0, none⟩) (Kd.R_types HO221.out BK223.out (by decide)) (fun _ hk => hk.2) (.slice Ao8 t216.length co8)) (fun _ hk => hk.2) (.slice Ao10 t219.length co10)) (fun _ h_ => h_.1))) hb) (Kd.R_base ho0)) (Kd.R_base ho1)) (fun _ h_ => h_.1)); have n2_ := Aside0.mk (Kd.R_lower (Kd.R_new' (Kd.R_new' ho0 (Kd.R_lt (by (with_reducible repeat (first | apply Kd.R_alloc | apply Kd.R_drewN | apply Kd.R_drew)); exact (Kd.R_mono (Kd.R_far (p := ⟨gb223, 1, none⟩) (Kd.R_far (p := ⟨gb223, 0, none⟩) (Kd.R_types HO218.out BK223.out (by decide)) (fun _ hk => hk.2) (.slice Ao8 t216.length co8)) (fun _ hk => hk.2) (.slice Ao10 t219.length co10)) (fun _ h_ => h_.1))))) (Kd.R_lt (by (with_reducible repeat (first | apply Kd.R_alloc | apply Kd.R_drewN | apply Kd.R_drew)); exact (Kd.R_mono (Kd.R_far (p := ⟨gb223, 1, none⟩) (Kd.R_far (p := ⟨gb223, 0, none⟩) (Kd.R_types HO221.out BK223.out (by decide)) (fun _ hk => hk.2) (.slice Ao8 t216.length co8)) (fun _ hk => hk.2) (.slice Ao10 t219.length co10)) (fun _ h_ => h_.1))))) (below_size (by repeat (first | (with_reducible first | exact HB.out | apply below_alloc | apply pw_below_drewN | apply below_drew1 | refine below_set ?_ GE223.out) | exact HB.out)))); have n3_ := Aside0.mk (Kd.R_lower (Kd.R_new' (Kd.R_new' ho1 (Kd.R_lt (by (with_reducible repeat (first | apply Kd.R_alloc | apply Kd.R_drewN | apply Kd.R_drew)); exact (Kd.R_mono (Kd.R_far (p := ⟨gb223, 1, none⟩) (Kd.R_far (p := ⟨gb223, 0, none⟩) (Kd.R_types HO218.out BK223.out (by decide)) (fun _ hk => hk.2) (.slice Ao8 t216.length co8)) (fun _ hk => hk.2) (.slice Ao10 t219.length co10)) (fun _ h_ => h_.1))))) (Kd.R_lt (by (with_reducible repeat (first | apply Kd.R_alloc | apply Kd.R_drewN | apply Kd.R_drew)); exact (Kd.R_mono (Kd.R_far (p := ⟨gb223, 1, none⟩) (Kd.R_far (p := ⟨gb223, 0, none⟩) (Kd.R_types HO221.out BK223.out (by decide)) (fun _ hk => hk.2) (.slice Ao8 t216.length co8)) (fun _ hk => hk.2) (.slice Ao10 t219.length co10)) (fun _ h_ => h_.1))))) (below_size (by repeat (first | (with_reducible first | exact HB.out | apply below_alloc | apply pw_below_drewN | apply below_drew1 | refine below_set ?_ GE223.out) | exact HB.out)))); have n4_ := Aside0.mk (blk_below (g := gb223) (o := .cells #[.slice Ao8 t216.length co8, .slice Ao10 t219.length co10] 36 (0, 0)) (by (with_reducible repeat (first | refine blk_drewN ?_ _ | refine blk_drew ?_ | refine blk_alloc ?_ _)); refine blk_put (cs := #[.slice Ao8 t216.length co8, .slice none 0 0]) ?_ 1 _ rfl; (with_reducible repeat (first | refine blk_drewN ?_ _ | refine blk_drew ?_ | refine blk_alloc ?_ _)); refine blk_put (cs := #[.slice none 0 0, .slice none 0 0]) ?_ 0 _ rfl; (with_reducible repeat (first | refine blk_drewN ?_ _ | refine blk_drew ?_ | refine blk_alloc ?_ _)); exact BK223.out) hb); have n5_ := Aside0.mk (below_step (by repeat (first | (with_reducible first | exact HB.out | apply below_alloc | apply pw_below_drewN | apply below_drew1 | refine below_set ?_ GE223.out) | exact HB.out)) hb); clear HO218; clear HO221; clear BK223; clear HB; have HO218 := n0_; have HO221 := n1_; have HO226 := n2_; have HO229 := n3_; have BK223 := n4_; have HB := n5_; clear n0_ n1_ n2_ n3_ n4_ n5_; (try clear hb); (try clear hb2); (try clear hk); (try clear hi); (try clear ho0); (try clear ho1)) | ((with_reducible refine gate_dst (N := 5) rfl ?_); refine box_event ?hg (N := 5) ?hd (cs := #[.slice none 0 0, .slice none 0 0]) (t := 36) ?hr ?_; (case hd => rfl); (case hg => rfl); (case hr => first | (go_simp; done) | (go_simp; rfl)); intro gb231 hg w12 hbox hb; have n0_ := Aside0.mk (Kd.R_below (by (with_reducible repeat (first | apply Kd.R_alloc | apply Kd.R_drewN | apply Kd.R_drew)); exact HO218.out) hb); have n1_ := Aside0.mk (Kd.R_below (by (with_reducible repeat (first | apply Kd.R_alloc | apply Kd.R_drewN | apply Kd.R_drew)); exact HO221.out) hb); have n2_ := Aside0.mk (Kd.R_below (by (with_reducible repeat (first | apply Kd.R_alloc | apply Kd.R_drewN | apply Kd.R_drew)); exact HO226.out) hb); have n3_ := Aside0.mk (Kd.R_below (by (with_reducible repeat (first | apply Kd.R_alloc | apply Kd.R_drewN | apply Kd.R_drew)); exact HO229.out) hb); have n4_ := Aside0.mk (blk_below (g := gb223) (o := .cells #[.slice Ao8 t216.length co8, .slice Ao10 t219.length co10] 36 (0, 0)) (by (with_reducible repeat (first | refine blk_drewN ?_ _ | refine blk_drew ?_ | refine blk_alloc ?_ _)); exact BK223.out) hb); have n5_ := Aside0.mk (below_step (by repeat (first | (with_reducible first | exact HB.out | apply below_alloc | apply pw_below_drewN | apply below_drew1 | refine below_set ?_ GE223.out) | exact HB.out)) hb); have n6_ := Aside0.mk (hbox); have n7_ := Aside0.mk ((by rw [hg]; exact (below_size (by repeat (first | (with_reducible first | exact HB.out | apply below_alloc | apply pw_below_drewN | apply below_drew1 | refine below_set ?_ GE223.out) | exact HB.out))) : w.heap.size ≤ gb231)); have n8_ := Aside0.mk ((by rw [hg]; exact (below_size (by repeat (first | (with_reducible first | exact HB.out | apply below_alloc | apply pw_below_drewN | apply below_drew1 | refine below_set ?_ GE223.out) | exact HB.out))) : w.heap.size ≤ gb231)); have n9_ := Aside0.mk ((by rw [hg]; exact Nat.ne_of_lt (blk_lt (g := gb223) (o := .cells #[.slice Ao8 t216.length co8, .slice Ao10 t219.length co10] 36 (0, 0)) (by (with_reducible repeat (first | refine blk_drewN ?_ _ | refine blk_drew ?_ | refine blk_alloc ?_ _)); exact BK223.out)) : gb223 ≠ gb231)); have n10_ := Aside0.mk ((by rw [hg]; exact Nat.ne_of_gt (blk_lt (g := gb223) (o := .cells #[.slice Ao8 t216.length co8, .slice Ao10 t219.length co10] 36 (0, 0)) (by (with_reducible repeat (first | refine blk_drewN ?_ _ | refine blk_drew ?_ | refine blk_alloc ?_ _)); exact BK223.out)) : gb231 ≠ gb223)); clear HO218; clear HO221; clear HO226; clear HO229; clear BK223; clear HB; have HO218 := n0_; have HO221 := n1_; have HO226 := n2_; have HO229 := n3_; have BK223 := n4_; have HB := n5_; have BK231 := n6_; have GW231 := n7_; have GE231 := n8_; have NB223_231 := n9_; have NB231_223 := n10_; clear n0_ n1_ n2_ n3_ n4_ n5_ n6_ n7_ n8_ n9_ n10_; clear hb hbox hg; obtain ⟨Ao13, co13, eo13⟩ := Kd.R_slice HO226.out; subst eo13; have hnb14 := NB231_223.out; have hnc14 := NB223_231.out; have hcz15_0 : w12.cell? ⟨gb231, 0, none⟩ = some (.slice none 0 0) := (blk_cell BK231.out 0).trans rfl; have hcz15_1 : w12.cell? ⟨gb231, 1, none⟩ = some (.slice none 0 0) := (blk_cell BK231.out 1).trans rfl; have hfz15_0 := blk_frozen BK231.out 0; have hfz15_1 := blk_frozen BK231.out 1; obtain ⟨Ao16, co16, eo16⟩ := Kd.R_slice HO229.out; subst eo16))
    (try simp only [Act.put, List.setIfInBounds_toArray, List.set_cons_zero, List.set_cons_succ])
    go_cut [32] (fun v32 wc => ∃ (kq : Nat) (x32_4 : Bool), v32 = .bool x32_4 ∧ Aside0 (laws_FnExactDecodeSpace.j0 kq a0 t222 x32_4 t216 t219 t224 t227 = some r) ∧ Aside0 (kq ≤ k) ∧ Aside0 (Kd.R (Kd.int .i64) 2 wc w.heap.size (fun k_ => some k_ ≠ ((.slice Ao10 t219.length co10) : Value).ownBlock ∧ some k_ ≠ ((.slice Ao13 t224.length co13) : Value).ownBlock ∧ some k_ ≠ ((.slice Ao16 t227.length co16) : Value).ownBlock) (.slice Ao8 t216.length co8) t216) ∧ Aside0 (Kd.R (Kd.int .i64) 2 wc w.heap.size (fun k_ => some k_ ≠ ((.slice Ao8 t216.length co8) : Value).ownBlock ∧ some k_ ≠ ((.slice Ao13 t224.length co13) : Value).ownBlock ∧ some k_ ≠ ((.slice Ao16 t227.length co16) : Value).ownBlock) (.slice Ao10 t219.length co10) t219) ∧ Aside0 (Kd.R (Kd.int .i64) 2 wc w.heap.size (fun k_ => some k_ ≠ ((.slice Ao8 t216.length co8) : Value).ownBlock ∧ some k_ ≠ ((.slice Ao10 t219.length co10) : Value).ownBlock ∧ some k_ ≠ ((.slice Ao16 t227.length co16) : Value).ownBlock) (.slice Ao13 t224.length co13) t224) ∧ Aside0 (Kd.R (Kd.int .i64) 2 wc w.heap.size (fun k_ => some k_ ≠ ((.slice Ao8 t216.length co8) : Value).ownBlock ∧ some k_ ≠ ((.slice Ao10 t219.length co10) : Value).ownBlock ∧ some k_ ≠ ((.slice Ao13 t224.length co13) : Value).ownBlock) (.slice Ao16 t227.length co16) t227) ∧ Aside0 (wc.heap[gb223]? = some (.cells #[(.slice Ao8 t216.length co8), (.slice Ao10 t219.length co10)] 36 (0, 0))) ∧ Aside0 (wc.heap[gb231]? = some (.cells #[(.slice Ao13 t224.length co13), (.slice Ao16 t227.length co16)] 36 (0, 0))) ∧ Aside0 (Below w.heap.size w wc))
    case first =>
      have H := HC5.out
      clear HC5
      replace H := Option.bind_eq_some_iff.mp H
      obtain ⟨t232, A170, H⟩ := H
      replace H : (if t232 = true then (laws_FnExactDecodeSpace.j0 k a0 t222 (t230 != t222) t216 t219 t224 t227) else (laws_FnExactDecodeSpace.j0 k a0 t222 true t216 t219 t224 t227)) = some r := H
      have A17 := Aside0.mk A170
      clear A170
      by_cases c18 : t232 = true
      · subst c18
        have H1 : (laws_FnExactDecodeSpace.j0 k a0 t222 (t230 != t222) t216 t219 t224 t227) = some r := by rw [if_pos rfl] at H; exact H
        clear H
        have H := H1
        clear H1
        have H' := Aside0.mk H
        clear H
        have hnb19 := NB231_223.out
        have hnc19 := NB223_231.out
        have hcz20_0 : w12.cell? ⟨gb231, 0, none⟩ = some (.slice none 0 0) := (blk_cell BK231.out 0).trans rfl
        have hcz20_1 : w12.cell? ⟨gb231, 1, none⟩ = some (.slice none 0 0) := (blk_cell BK231.out 1).trans rfl
        have hfz20_0 := blk_frozen BK231.out 0
        have hfz20_1 := blk_frozen BK231.out 1
        have hcz21_0 : w12.cell? ⟨gb223, 0, none⟩ = some (.slice Ao8 t216.length co8) := (blk_cell BK223.out 0).trans rfl
        have hcz21_1 : w12.cell? ⟨gb223, 1, none⟩ = some (.slice Ao10 t219.length co10) := (blk_cell BK223.out 1).trans rfl
        have hfz21_0 := blk_frozen BK223.out 0
        have hfz21_1 := blk_frozen BK223.out 1
        go_wp2_with (first | ((with_reducible refine gate_callee (f := 18) rfl ?_); refine goesL_ (some 26) rfl rfl Try.func18 (by kernel_rfl) rfl #[.agg #[.slice Ao13 t224.length co13, .slice Ao16 t227.length co16], .agg #[.slice Ao8 t216.length co8, .slice Ao10 t219.length co10]] rfl (by (try simp only [List.map_toArray, List.map_cons, List.map_nil]); first | done | rfl | (simp only [List.length_drop, List.length_take]; rfl)) ?_; (with_reducible refine (laws_eqSpace.calls k _ _ t224 _ _ t227 _ _ t216 _ _ t219 true _ ?side1 ?side2 ?side3 ?side4 ?side5 ?side6 ?side7 ?side8 A17.out).mono ?_); (case side1 => refine (Kd.R_reads' (e := 2) (base := w.heap.size) (ok := fun k_ => ((some k_ ≠ (.slice Ao16 t227.length co16 : Value).ownBlock ∧ some k_ ≠ (.slice Ao8 t216.length co8 : Value).ownBlock) ∧ some k_ ≠ (.slice Ao10 t219.length co10 : Value).ownBlock)) (n := t224.length) (c := co13) ?_).2.2; exact (by (with_reducible repeat (first | apply Kd.R_alloc | apply Kd.R_drewN | apply Kd.R_drew)); exact (Kd.R_mono (Kd.R_far (p := ⟨gb231, 1, none⟩) (Kd.R_far (p := ⟨gb231, 0, none⟩) (Kd.R_types HO226.out BK231.out (by decide)) (fun _ hk => hk.2) (.slice Ao13 t224.length co13)) (fun _ hk => hk.2) (.slice Ao16 t227.length co16)) (fun _ h_ => h_.1)))); (case side2 => exact (Kd.R_reads' HO226.out).2.1); (case side3 => refine (Kd.R_reads' (e := 2) (base := w.heap.size) (ok := fun k_ => ((some k_ ≠ (.slice Ao13 t224.length co13 : Value).ownBlock ∧ some k_ ≠ (.slice Ao8 t216.length co8 : Value).ownBlock) ∧ some k_ ≠ (.slice Ao10 t219.length co10 : Value).ownBlock)) (n := t227.length) (c := co16) ?_).2.2; exact (by (with_reducible repeat (first | apply Kd.R_alloc | apply Kd.R_drewN | apply Kd.R_drew)); exact (Kd.R_mono (Kd.R_far (p := ⟨gb231, 1, none⟩) (Kd.R_far (p := ⟨gb231, 0, none⟩) (Kd.R_types HO229.out BK231.out (by decide)) (fun _ hk => hk.2) (.slice Ao13 t224.length co13)) (fun _ hk => hk.2) (.slice Ao16 t227.length co16)) (fun _ h_ => h_.1)))); (case side4 => exact (Kd.R_reads' HO229.out).2.1); (case side5 => refine (Kd.R_reads' (e := 2) (base := w.heap.size) (ok := fun k_ => ((some k_ ≠ (.slice Ao10 t219.length co10 : Value).ownBlock ∧ some k_ ≠ (.slice Ao13 t224.length co13 : Value).ownBlock) ∧ some k_ ≠ (.slice Ao16 t227.length co16 : Value).ownBlock)) (n := t216.length) (c := co8) ?_).2.2; exact (by (with_reducible repeat (first | apply Kd.R_alloc | apply Kd.R_drewN | apply Kd.R_drew)); exact (Kd.R_mono (Kd.R_far (p := ⟨gb231, 1, none⟩) (Kd.R_far (p := ⟨gb231, 0, none⟩) (Kd.R_types HO218.out BK231.out (by decide)) (fun _ hk => hk.2) (.slice Ao13 t224.length co13)) (fun _ hk => hk.2) (.slice Ao16 t227.length co16)) (fun _ h_ => h_.1)))); (case side6 => exact (Kd.R_reads' HO218.out).2.1); (case side7 => refine (Kd.R_reads' (e := 2) (base := w.heap.size) (ok := fun k_ => ((some k_ ≠ (.slice Ao8 t216.length co8 : Value).ownBlock ∧ some k_ ≠ (.slice Ao13 t224.length co13 : Value).ownBlock) ∧ some k_ ≠ (.slice Ao16 t227.length co16 : Value).ownBlock)) (n := t219.length) (c := co10) ?_).2.2; exact (by (with_reducible repeat (first | apply Kd.R_alloc | apply Kd.R_drewN | apply Kd.R_drew)); exact (Kd.R_mono (Kd.R_far (p := ⟨gb231, 1, none⟩) (Kd.R_far (p := ⟨gb231, 0, none⟩) (Kd.R_types HO221.out BK231.out (by decide)) (fun _ hk => hk.2) (.slice Ao13 t224.length co13)) (fun _ hk => hk.2) (.slice Ao16 t227.length co16)) (fun _ h_ => h_.1)))); (case side8 => exact (Kd.R_reads' HO221.out).2.1); rintro e w22 ⟨rfl, hb⟩; refine ⟨_, rfl, ?_⟩; have n0_ := Aside0.mk (Kd.R_below (by (with_reducible repeat (first | apply Kd.R_alloc | apply Kd.R_drewN | apply Kd.R_drew)); exact (Kd.R_mono (Kd.R_far (p := ⟨gb231, 1, none⟩) (Kd.R_far (p := ⟨gb231, 0, none⟩) (Kd.R_types HO218.out BK231.out (by decide)) (fun _ hk => hk.2) (.slice Ao13 t224.length co13)) (fun _ hk => hk.2) (.slice Ao16 t227.length co16)) (fun _ h_ => h_.1))) hb); have n1_ := Aside0.mk (Kd.R_below (by (with_reducible repeat (first | apply Kd.R_alloc | apply Kd.R_drewN | apply Kd.R_drew)); exact (Kd.R_mono (Kd.R_far (p := ⟨gb231, 1, none⟩) (Kd.R_far (p := ⟨gb231, 0, none⟩) (Kd.R_types HO221.out BK231.out (by decide)) (fun _ hk => hk.2) (.slice Ao13 t224.length co13)) (fun _ hk => hk.2) (.slice Ao16 t227.length co16)) (fun _ h_ => h_.1))) hb); have n2_ := Aside0.mk (Kd.R_below (by (with_reducible repeat (first | apply Kd.R_alloc | apply Kd.R_drewN | apply Kd.R_drew)); exact (Kd.R_mono (Kd.R_far (p := ⟨gb231, 1, none⟩) (Kd.R_far (p := ⟨gb231, 0, none⟩) (Kd.R_types HO226.out BK231.out (by decide)) (fun _ hk => hk.2) (.slice Ao13 t224.length co13)) (fun _ hk => hk.2) (.slice Ao16 t227.length co16)) (fun _ h_ => h_.1))) hb); have n3_ := Aside0.mk (Kd.R_below (by (with_reducible repeat (first | apply Kd.R_alloc | apply Kd.R_drewN | apply Kd.R_drew)); exact (Kd.R_mono (Kd.R_far (p := ⟨gb231, 1, none⟩) (Kd.R_far (p := ⟨gb231, 0, none⟩) (Kd.R_types HO229.out BK231.out (by decide)) (fun _ hk => hk.2) (.slice Ao13 t224.length co13)) (fun _ hk => hk.2) (.slice Ao16 t227.length co16)) (fun _ h_ => h_.1))) hb); have n4_ := Aside0.mk (blk_below (g := gb223) (o := .cells #[.slice Ao8 t216.length co8, .slice Ao10 t219.length co10] 36 (0, 0)) (by (with_reducible repeat (first | refine blk_drewN ?_ _ | refine blk_drew ?_ | refine blk_alloc ?_ _)); refine blk_far ?_ NB223_231.out _; (with_reducible repeat (first | refine blk_drewN ?_ _ | refine blk_drew ?_ | refine blk_alloc ?_ _)); refine blk_far ?_ NB223_231.out _; (with_reducible repeat (first | refine blk_drewN ?_ _ | refine blk_drew ?_ | refine blk_alloc ?_ _)); exact BK223.out) hb); have n5_ := Aside0.mk (blk_below (g := gb231) (o := .cells #[.slice Ao13 t224.length co13, .slice Ao16 t227.length co16] 36 (0, 0)) (by (with_reducible repeat (first | refine blk_drewN ?_ _ | refine blk_drew ?_ | refine blk_alloc ?_ _)); refine blk_put (cs := #[.slice Ao13 t224.length co13, .slice none 0 0]) ?_ 1 _ rfl; (with_reducible repeat (first | refine blk_drewN ?_ _ | refine blk_drew ?_ | refine blk_alloc ?_ _)); refine blk_put (cs := #[.slice none 0 0, .slice none 0 0]) ?_ 0 _ rfl; (with_reducible repeat (first | refine blk_drewN ?_ _ | refine blk_drew ?_ | refine blk_alloc ?_ _)); exact BK231.out) hb); have n6_ := Aside0.mk (below_step (by repeat (first | (with_reducible first | exact HB.out | apply below_alloc | apply pw_below_drewN | apply below_drew1 | refine below_set ?_ GE223.out | refine below_set ?_ GE231.out) | exact HB.out)) hb); clear HO218; clear HO221; clear HO226; clear HO229; clear BK223; clear BK231; clear HB; have HO218 := n0_; have HO221 := n1_; have HO226 := n2_; have HO229 := n3_; have BK223 := n4_; have BK231 := n5_; have HB := n6_; clear n0_ n1_ n2_ n3_ n4_ n5_ n6_; (try clear hb); (try clear hb2); (try clear hk); (try clear hi)))
        go_meet
        case rel => exact ⟨_, ((t230 != t222)), (by first | rfl | (simp; done) | (simp [*]; done)), H', ⟨by first | omega | exact Nat.le_refl _⟩, ⟨by (with_reducible repeat (first | apply Kd.R_alloc | apply Kd.R_drewN | apply Kd.R_drew)); exact Kd.R_mono HO218.out (fun _ hk => ⟨hk.1.1, ⟨hk.1.2, hk.2⟩⟩)⟩, ⟨by (with_reducible repeat (first | apply Kd.R_alloc | apply Kd.R_drewN | apply Kd.R_drew)); exact Kd.R_mono HO221.out (fun _ hk => ⟨hk.1.1, ⟨hk.1.2, hk.2⟩⟩)⟩, ⟨by (with_reducible repeat (first | apply Kd.R_alloc | apply Kd.R_drewN | apply Kd.R_drew)); exact Kd.R_mono HO226.out (fun _ hk => ⟨hk.1.2, ⟨hk.2, hk.1.1⟩⟩)⟩, ⟨by (with_reducible repeat (first | apply Kd.R_alloc | apply Kd.R_drewN | apply Kd.R_drew)); exact Kd.R_mono HO229.out (fun _ hk => ⟨hk.1.2, ⟨hk.2, hk.1.1⟩⟩)⟩, ⟨by (with_reducible repeat (first | refine blk_drewN ?_ _ | refine blk_drew ?_ | refine blk_alloc ?_ _)); exact BK223.out⟩, ⟨by (with_reducible repeat (first | refine blk_drewN ?_ _ | refine blk_drew ?_ | refine blk_alloc ?_ _)); exact BK231.out⟩, ⟨by repeat (first | (with_reducible first | exact HB.out | apply below_alloc | apply pw_below_drewN | apply below_drew1 | refine below_set ?_ GE223.out | refine below_set ?_ GE231.out) | exact HB.out)⟩⟩
      · replace c18 := Bool.eq_false_iff.mpr c18
        subst c18
        have H1 : (laws_FnExactDecodeSpace.j0 k a0 t222 true t216 t219 t224 t227) = some r := by rw [if_neg (show ¬ (false = true) by decide)] at H; exact H
        clear H
        have H := H1
        clear H1
        have H' := Aside0.mk H
        clear H
        have hnb23 := NB231_223.out
        have hnc23 := NB223_231.out
        have hcz24_0 : w12.cell? ⟨gb231, 0, none⟩ = some (.slice none 0 0) := (blk_cell BK231.out 0).trans rfl
        have hcz24_1 : w12.cell? ⟨gb231, 1, none⟩ = some (.slice none 0 0) := (blk_cell BK231.out 1).trans rfl
        have hfz24_0 := blk_frozen BK231.out 0
        have hfz24_1 := blk_frozen BK231.out 1
        have hcz25_0 : w12.cell? ⟨gb223, 0, none⟩ = some (.slice Ao8 t216.length co8) := (blk_cell BK223.out 0).trans rfl
        have hcz25_1 : w12.cell? ⟨gb223, 1, none⟩ = some (.slice Ao10 t219.length co10) := (blk_cell BK223.out 1).trans rfl
        have hfz25_0 := blk_frozen BK223.out 0
        have hfz25_1 := blk_frozen BK223.out 1
        go_wp2_with (first | ((with_reducible refine gate_callee (f := 18) rfl ?_); refine goesL_ (some 26) rfl rfl Try.func18 (by kernel_rfl) rfl #[.agg #[.slice Ao13 t224.length co13, .slice Ao16 t227.length co16], .agg #[.slice Ao8 t216.length co8, .slice Ao10 t219.length co10]] rfl (by (try simp only [List.map_toArray, List.map_cons, List.map_nil]); first | done | rfl | (simp only [List.length_drop, List.length_take]; rfl)) ?_; (with_reducible refine (laws_eqSpace.calls k _ _ t224 _ _ t227 _ _ t216 _ _ t219 false _ ?side1 ?side2 ?side3 ?side4 ?side5 ?side6 ?side7 ?side8 A17.out).mono ?_); (case side1 => refine (Kd.R_reads' (e := 2) (base := w.heap.size) (ok := fun k_ => ((some k_ ≠ (.slice Ao16 t227.length co16 : Value).ownBlock ∧ some k_ ≠ (.slice Ao8 t216.length co8 : Value).ownBlock) ∧ some k_ ≠ (.slice Ao10 t219.length co10 : Value).ownBlock)) (n := t224.length) (c := co13) ?_).2.2; exact (by (with_reducible repeat (first | apply Kd.R_alloc | apply Kd.R_drewN | apply Kd.R_drew)); exact (Kd.R_mono (Kd.R_far (p := ⟨gb231, 1, none⟩) (Kd.R_far (p := ⟨gb231, 0, none⟩) (Kd.R_types HO226.out BK231.out (by decide)) (fun _ hk => hk.2) (.slice Ao13 t224.length co13)) (fun _ hk => hk.2) (.slice Ao16 t227.length co16)) (fun _ h_ => h_.1)))); (case side2 => exact (Kd.R_reads' HO226.out).2.1); (case side3 => refine (Kd.R_reads' (e := 2) (base := w.heap.size) (ok := fun k_ => ((some k_ ≠ (.slice Ao13 t224.length co13 : Value).ownBlock ∧ some k_ ≠ (.slice Ao8 t216.length co8 : Value).ownBlock) ∧ some k_ ≠ (.slice Ao10 t219.length co10 : Value).ownBlock)) (n := t227.length) (c := co16) ?_).2.2; exact (by (with_reducible repeat (first | apply Kd.R_alloc | apply Kd.R_drewN | apply Kd.R_drew)); exact (Kd.R_mono (Kd.R_far (p := ⟨gb231, 1, none⟩) (Kd.R_far (p := ⟨gb231, 0, none⟩) (Kd.R_types HO229.out BK231.out (by decide)) (fun _ hk => hk.2) (.slice Ao13 t224.length co13)) (fun _ hk => hk.2) (.slice Ao16 t227.length co16)) (fun _ h_ => h_.1)))); (case side4 => exact (Kd.R_reads' HO229.out).2.1); (case side5 => refine (Kd.R_reads' (e := 2) (base := w.heap.size) (ok := fun k_ => ((some k_ ≠ (.slice Ao10 t219.length co10 : Value).ownBlock ∧ some k_ ≠ (.slice Ao13 t224.length co13 : Value).ownBlock) ∧ some k_ ≠ (.slice Ao16 t227.length co16 : Value).ownBlock)) (n := t216.length) (c := co8) ?_).2.2; exact (by (with_reducible repeat (first | apply Kd.R_alloc | apply Kd.R_drewN | apply Kd.R_drew)); exact (Kd.R_mono (Kd.R_far (p := ⟨gb231, 1, none⟩) (Kd.R_far (p := ⟨gb231, 0, none⟩) (Kd.R_types HO218.out BK231.out (by decide)) (fun _ hk => hk.2) (.slice Ao13 t224.length co13)) (fun _ hk => hk.2) (.slice Ao16 t227.length co16)) (fun _ h_ => h_.1)))); (case side6 => exact (Kd.R_reads' HO218.out).2.1); (case side7 => refine (Kd.R_reads' (e := 2) (base := w.heap.size) (ok := fun k_ => ((some k_ ≠ (.slice Ao8 t216.length co8 : Value).ownBlock ∧ some k_ ≠ (.slice Ao13 t224.length co13 : Value).ownBlock) ∧ some k_ ≠ (.slice Ao16 t227.length co16 : Value).ownBlock)) (n := t219.length) (c := co10) ?_).2.2; exact (by (with_reducible repeat (first | apply Kd.R_alloc | apply Kd.R_drewN | apply Kd.R_drew)); exact (Kd.R_mono (Kd.R_far (p := ⟨gb231, 1, none⟩) (Kd.R_far (p := ⟨gb231, 0, none⟩) (Kd.R_types HO221.out BK231.out (by decide)) (fun _ hk => hk.2) (.slice Ao13 t224.length co13)) (fun _ hk => hk.2) (.slice Ao16 t227.length co16)) (fun _ h_ => h_.1)))); (case side8 => exact (Kd.R_reads' HO221.out).2.1); rintro e w26 ⟨rfl, hb⟩; refine ⟨_, rfl, ?_⟩; have n0_ := Aside0.mk (Kd.R_below (by (with_reducible repeat (first | apply Kd.R_alloc | apply Kd.R_drewN | apply Kd.R_drew)); exact (Kd.R_mono (Kd.R_far (p := ⟨gb231, 1, none⟩) (Kd.R_far (p := ⟨gb231, 0, none⟩) (Kd.R_types HO218.out BK231.out (by decide)) (fun _ hk => hk.2) (.slice Ao13 t224.length co13)) (fun _ hk => hk.2) (.slice Ao16 t227.length co16)) (fun _ h_ => h_.1))) hb); have n1_ := Aside0.mk (Kd.R_below (by (with_reducible repeat (first | apply Kd.R_alloc | apply Kd.R_drewN | apply Kd.R_drew)); exact (Kd.R_mono (Kd.R_far (p := ⟨gb231, 1, none⟩) (Kd.R_far (p := ⟨gb231, 0, none⟩) (Kd.R_types HO221.out BK231.out (by decide)) (fun _ hk => hk.2) (.slice Ao13 t224.length co13)) (fun _ hk => hk.2) (.slice Ao16 t227.length co16)) (fun _ h_ => h_.1))) hb); have n2_ := Aside0.mk (Kd.R_below (by (with_reducible repeat (first | apply Kd.R_alloc | apply Kd.R_drewN | apply Kd.R_drew)); exact (Kd.R_mono (Kd.R_far (p := ⟨gb231, 1, none⟩) (Kd.R_far (p := ⟨gb231, 0, none⟩) (Kd.R_types HO226.out BK231.out (by decide)) (fun _ hk => hk.2) (.slice Ao13 t224.length co13)) (fun _ hk => hk.2) (.slice Ao16 t227.length co16)) (fun _ h_ => h_.1))) hb); have n3_ := Aside0.mk (Kd.R_below (by (with_reducible repeat (first | apply Kd.R_alloc | apply Kd.R_drewN | apply Kd.R_drew)); exact (Kd.R_mono (Kd.R_far (p := ⟨gb231, 1, none⟩) (Kd.R_far (p := ⟨gb231, 0, none⟩) (Kd.R_types HO229.out BK231.out (by decide)) (fun _ hk => hk.2) (.slice Ao13 t224.length co13)) (fun _ hk => hk.2) (.slice Ao16 t227.length co16)) (fun _ h_ => h_.1))) hb); have n4_ := Aside0.mk (blk_below (g := gb223) (o := .cells #[.slice Ao8 t216.length co8, .slice Ao10 t219.length co10] 36 (0, 0)) (by (with_reducible repeat (first | refine blk_drewN ?_ _ | refine blk_drew ?_ | refine blk_alloc ?_ _)); refine blk_far ?_ NB223_231.out _; (with_reducible repeat (first | refine blk_drewN ?_ _ | refine blk_drew ?_ | refine blk_alloc ?_ _)); refine blk_far ?_ NB223_231.out _; (with_reducible repeat (first | refine blk_drewN ?_ _ | refine blk_drew ?_ | refine blk_alloc ?_ _)); exact BK223.out) hb); have n5_ := Aside0.mk (blk_below (g := gb231) (o := .cells #[.slice Ao13 t224.length co13, .slice Ao16 t227.length co16] 36 (0, 0)) (by (with_reducible repeat (first | refine blk_drewN ?_ _ | refine blk_drew ?_ | refine blk_alloc ?_ _)); refine blk_put (cs := #[.slice Ao13 t224.length co13, .slice none 0 0]) ?_ 1 _ rfl; (with_reducible repeat (first | refine blk_drewN ?_ _ | refine blk_drew ?_ | refine blk_alloc ?_ _)); refine blk_put (cs := #[.slice none 0 0, .slice none 0 0]) ?_ 0 _ rfl; (with_reducible repeat (first | refine blk_drewN ?_ _ | refine blk_drew ?_ | refine blk_alloc ?_ _)); exact BK231.out) hb); have n6_ := Aside0.mk (below_step (by repeat (first | (with_reducible first | exact HB.out | apply below_alloc | apply pw_below_drewN | apply below_drew1 | refine below_set ?_ GE223.out | refine below_set ?_ GE231.out) | exact HB.out)) hb); clear HO218; clear HO221; clear HO226; clear HO229; clear BK223; clear BK231; clear HB; have HO218 := n0_; have HO221 := n1_; have HO226 := n2_; have HO229 := n3_; have BK223 := n4_; have BK231 := n5_; have HB := n6_; clear n0_ n1_ n2_ n3_ n4_ n5_ n6_; (try clear hb); (try clear hb2); (try clear hk); (try clear hi)))
        go_meet
        case rel => exact ⟨_, (true), (by first | rfl | (simp; done) | (simp [*]; done)), H', ⟨by first | omega | exact Nat.le_refl _⟩, ⟨by (with_reducible repeat (first | apply Kd.R_alloc | apply Kd.R_drewN | apply Kd.R_drew)); exact Kd.R_mono HO218.out (fun _ hk => ⟨hk.1.1, ⟨hk.1.2, hk.2⟩⟩)⟩, ⟨by (with_reducible repeat (first | apply Kd.R_alloc | apply Kd.R_drewN | apply Kd.R_drew)); exact Kd.R_mono HO221.out (fun _ hk => ⟨hk.1.1, ⟨hk.1.2, hk.2⟩⟩)⟩, ⟨by (with_reducible repeat (first | apply Kd.R_alloc | apply Kd.R_drewN | apply Kd.R_drew)); exact Kd.R_mono HO226.out (fun _ hk => ⟨hk.1.2, ⟨hk.2, hk.1.1⟩⟩)⟩, ⟨by (with_reducible repeat (first | apply Kd.R_alloc | apply Kd.R_drewN | apply Kd.R_drew)); exact Kd.R_mono HO229.out (fun _ hk => ⟨hk.1.2, ⟨hk.2, hk.1.1⟩⟩)⟩, ⟨by (with_reducible repeat (first | refine blk_drewN ?_ _ | refine blk_drew ?_ | refine blk_alloc ?_ _)); exact BK223.out⟩, ⟨by (with_reducible repeat (first | refine blk_drewN ?_ _ | refine blk_drew ?_ | refine blk_alloc ?_ _)); exact BK231.out⟩, ⟨by repeat (first | (with_reducible first | exact HB.out | apply below_alloc | apply pw_below_drewN | apply below_drew1 | refine below_set ?_ GE223.out | refine below_set ?_ GE231.out) | exact HB.out)⟩⟩
    case rest =>
      clear HC5
      try clear c1
      try clear c2
      try clear c2b0
      try clear c2b1
      try clear p2
      try clear c5
      try clear c14
      try clear c16
      try clear c17
      try clear c18
      try clear c19
      try clear c23
      try clear hcz15_0
      try clear hcz15_1
      try clear hcz20_0
      try clear hcz20_1
      try clear hcz21_0
      try clear hcz21_1
      try clear hcz24_0
      try clear hcz24_1
      try clear hcz25_0
      try clear hcz25_1
      try clear hcz9_0
      try clear hcz9_1
      try clear hfz15_0
      try clear hfz15_1
      try clear hfz20_0
      try clear hfz20_1
      try clear hfz21_0
      try clear hfz21_1
      try clear hfz24_0
      try clear hfz24_1
      try clear hfz25_0
      try clear hfz25_1
      try clear hfz9_0
      try clear hfz9_1
      obtain ⟨kq, x32_4, rfl, HA, HJ4, HO_224000, HO_224001, HO_232000, HO_232001, BK223, BK231, HB⟩ := hcut
      cases kq with
      | zero => exact absurd HA.out (by simp [laws_FnExactDecodeSpace.j0])
      | succ kj4 =>
        have H := HA.out
        clear HA
        simp only [laws_FnExactDecodeSpace.j0] at H
        by_cases c27 : x32_4 = true
        · subst c27
          have H1 : (some false) = some r := by rw [if_pos rfl] at H; exact H
          clear H
          have H := H1
          clear H1
          obtain rfl := Option.some.inj H
          go_wp2
          go_ret
          exact ⟨by first | rfl | (simp [errW_none, errW_some] <;> rfl) | (simp [*, errW_none, errW_some] <;> rfl), by repeat (first | (with_reducible first | exact HB.out | apply below_alloc | apply pw_below_drewN | apply below_drew1 | refine below_set ?_ GE223.out | refine below_set ?_ GE231.out) | exact HB.out)⟩
        · replace c27 := Bool.eq_false_iff.mpr c27
          subst c27
          have H1 : ((laws_markSpace.f kj4 t224 t227 1).bind fun bt233 => ((laws_heldSpace.f kj4 bt233.2.1 bt233.2.2 1).bind fun t236 => (if t236 < 0 then (some false) else (if t236 = bt233.1 then ((impl_DecodeSpace.f kj4 a0).bind fun bt237 => ((laws_eqSpace.f kj4 bt237.1 bt237.2.1 t216 t219).bind fun t245 => (if t245 = true then (laws_FnExactDecodeSpace.j1 kj4 bt233.1 (bt237.2.2 != t222) bt233.2.1 bt233.2.2) else (laws_FnExactDecodeSpace.j1 kj4 bt233.1 true bt233.2.1 bt233.2.2)))) else (some false))))) = some r := by rw [if_neg (show ¬ (false = true) by decide)] at H; exact H
          clear H
          have H := H1
          clear H1
          replace H := Option.bind_eq_some_iff.mp H
          obtain ⟨⟨t233, t234, t235⟩, A280, H⟩ := H
          replace H : ((laws_heldSpace.f kj4 t234 t235 1).bind fun t236 => (if t236 < 0 then (some false) else (if t236 = t233 then ((impl_DecodeSpace.f kj4 a0).bind fun bt237 => ((laws_eqSpace.f kj4 bt237.1 bt237.2.1 t216 t219).bind fun t245 => (if t245 = true then (laws_FnExactDecodeSpace.j1 kj4 t233 (bt237.2.2 != t222) t234 t235) else (laws_FnExactDecodeSpace.j1 kj4 t233 true t234 t235)))) else (some false)))) = some r := H
          have A28 := Aside0.mk A280
          clear A280
          replace H := Option.bind_eq_some_iff.mp H
          obtain ⟨t236, A290, H⟩ := H
          replace H : (if t236 < 0 then (some false) else (if t236 = t233 then ((impl_DecodeSpace.f kj4 a0).bind fun bt237 => ((laws_eqSpace.f kj4 bt237.1 bt237.2.1 t216 t219).bind fun t245 => (if t245 = true then (laws_FnExactDecodeSpace.j1 kj4 t233 (bt237.2.2 != t222) t234 t235) else (laws_FnExactDecodeSpace.j1 kj4 t233 true t234 t235)))) else (some false))) = some r := H
          have A29 := Aside0.mk A290
          clear A290
          by_cases c30 : t236 < 0
          · rw [if_pos c30] at H
            have c30b0 : decide (t236 < 0) = true := decide_eq_true c30
            clear c30
            obtain rfl := Option.some.inj H
            have hnb31 := NB231_223.out
            have hnc31 := NB223_231.out
            have hcz32_0 : wc.cell? ⟨gb231, 0, none⟩ = some (.slice Ao13 t224.length co13) := (blk_cell BK231.out 0).trans rfl
            have hcz32_1 : wc.cell? ⟨gb231, 1, none⟩ = some (.slice Ao16 t227.length co16) := (blk_cell BK231.out 1).trans rfl
            have hfz32_0 := blk_frozen BK231.out 0
            have hfz32_1 := blk_frozen BK231.out 1
            go_wp2_with (first | ((with_reducible refine gate_callee (f := 19) rfl ?_); refine goesL_ (some 35) rfl rfl Try.func19 (by kernel_rfl) rfl #[.agg #[.slice Ao13 t224.length co13, .slice Ao16 t227.length co16], .int .i64 1] rfl (by (try simp only [List.map_toArray, List.map_cons, List.map_nil]); first | done | rfl | (simp only [List.length_drop, List.length_take]; rfl)) ?_; (with_reducible refine (laws_markSpace.calls kj4 (fun k_ => some k_ = (.slice Ao13 t224.length co13 : Value).ownBlock) (.slice Ao13 t224.length co13) t224 (fun k_ => some k_ = (.slice Ao16 t227.length co16 : Value).ownBlock) (.slice Ao16 t227.length co16) t227 1 t233 t234 t235 w _ ?side1 ?side2 ?side3 ?side4 ?side5 A28.out).mono ?_); (case side1 => repeat (first | (with_reducible first | exact HB.out | apply below_alloc | apply pw_below_drewN | apply below_drew1 | refine below_set ?_ GE223.out | refine below_set ?_ GE231.out) | exact HB.out)); (case side2 => exact Kd.R_tight rfl HO_232000.out); (case side3 => exact fun k_ e_ => (HO_232000.out.1 k_ e_.symm).2.2); (case side4 => exact Kd.R_tight rfl HO_232001.out); (case side5 => exact fun k_ e_ => (HO_232001.out.1 k_ e_.symm).2.2); rintro e w33 ⟨rfl, hy0, hy1, hb, hkp⟩; refine ⟨_, rfl, ?_⟩; have n0_ := Aside0.mk (Kd.R_mono (ok' := fun k_ => some k_ ≠ (.slice Ao10 t219.length co10 : Value).ownBlock ∧ some k_ ≠ (.slice Ao13 t224.length co13 : Value).ownBlock ∧ some k_ ≠ (.slice Ao16 t227.length co16 : Value).ownBlock) (Kd.R_keptB (HO_224000.out) hkp (fun k_ hk_ hs_ => Or.elim hs_ (fun e_ => (hk_.2.1) e_) (fun e_ => (hk_.2.2) e_))) (fun k_ hk_ => ⟨hk_.1.1, hk_.1.2.1, hk_.1.2.2⟩)); have n1_ := Aside0.mk (Kd.R_mono (ok' := fun k_ => some k_ ≠ (.slice Ao8 t216.length co8 : Value).ownBlock ∧ some k_ ≠ (.slice Ao13 t224.length co13 : Value).ownBlock ∧ some k_ ≠ (.slice Ao16 t227.length co16 : Value).ownBlock) (Kd.R_keptB (HO_224001.out) hkp (fun k_ hk_ hs_ => Or.elim hs_ (fun e_ => (hk_.2.1) e_) (fun e_ => (hk_.2.2) e_))) (fun k_ hk_ => ⟨hk_.1.1, hk_.1.2.1, hk_.1.2.2⟩)); have n2_ := Aside0.mk (Kd.R_reok rfl hy0 (fun k_ e_ => HO_232000.out.1 k_ e_)); have n3_ := Aside0.mk (Kd.R_reok rfl hy1 (fun k_ e_ => HO_232001.out.1 k_ e_)); have n4_ := Aside0.mk (blk_kept (by (with_reducible repeat (first | refine blk_drewN ?_ _ | refine blk_drew ?_ | refine blk_alloc ?_ _)); exact BK223.out) hkp (fun hs_ => Or.elim hs_ (fun e_ => (fun e_ => (Kd.R_ne HO_232000.out BK223.out (by decide)) e_) e_) (fun e_ => (fun e_ => (Kd.R_ne HO_232001.out BK223.out (by decide)) e_) e_))); have n5_ := Aside0.mk (blk_kept (by (with_reducible repeat (first | refine blk_drewN ?_ _ | refine blk_drew ?_ | refine blk_alloc ?_ _)); exact BK231.out) hkp (fun hs_ => Or.elim hs_ (fun e_ => (fun e_ => (Kd.R_ne HO_232000.out BK231.out (by decide)) e_) e_) (fun e_ => (fun e_ => (Kd.R_ne HO_232001.out BK231.out (by decide)) e_) e_))); have n6_ := Aside0.mk (hb); clear HO_224000; clear HO_224001; clear HO_232000; clear HO_232001; clear BK223; clear BK231; clear HB; have HO_224000 := n0_; have HO_224001 := n1_; have HO_232000 := n2_; have HO_232001 := n3_; have BK223 := n4_; have BK231 := n5_; have HB := n6_; clear n0_ n1_ n2_ n3_ n4_ n5_ n6_; (try clear hb); (try clear hkp); (try clear hy0); (try clear hy1); have hcz34_0 : w33.cell? ⟨gb231, 0, none⟩ = some (.slice Ao13 t224.length co13) := (blk_cell BK231.out 0).trans rfl; have hcz34_1 : w33.cell? ⟨gb231, 1, none⟩ = some (.slice Ao16 t227.length co16) := (blk_cell BK231.out 1).trans rfl; have hfz34_0 := blk_frozen BK231.out 0; have hfz34_1 := blk_frozen BK231.out 1) | ((with_reducible refine gate_callee (f := 20) rfl ?_); refine goesL_ (some 38) rfl rfl Try.func20 (by kernel_rfl) rfl #[.agg #[.slice Ao13 t234.length co13, .slice Ao16 t235.length co16], .int .i64 1] rfl (by (try simp only [List.map_toArray, List.map_cons, List.map_nil]); first | done | (rw [show t234.length = t224.length from (Kd.R_reads' HO_232000.out).1.symm, show t235.length = t227.length from (Kd.R_reads' HO_232001.out).1.symm] <;> rfl) | rfl | (simp only [List.length_drop, List.length_take]; rfl)) ?_; (with_reducible refine (laws_heldSpace.calls kj4 _ _ t234 _ _ t235 1 t236 _ ?side1 ?side2 ?side3 ?side4 A29.out).mono ?_); (case side1 => repeat (first | exact (Kd.R_reads' HO_232000.out).2.2 | (with_reducible refine Kd.C_alloc ?_ _) | (with_reducible refine Kd.C_drewN ?_ _) | (with_reducible refine Kd.C_drew ?_))); (case side2 => rw [show t234.length = t224.length from (Kd.R_reads' HO_232000.out).1.symm]; exact (Kd.R_reads' HO_232000.out).2.1); (case side3 => repeat (first | exact (Kd.R_reads' HO_232001.out).2.2 | (with_reducible refine Kd.C_alloc ?_ _) | (with_reducible refine Kd.C_drewN ?_ _) | (with_reducible refine Kd.C_drew ?_))); (case side4 => rw [show t235.length = t227.length from (Kd.R_reads' HO_232001.out).1.symm]; exact (Kd.R_reads' HO_232001.out).2.1); rintro e w35 ⟨rfl, hb⟩; refine ⟨_, rfl, ?_⟩; have n0_ := Aside0.mk (Kd.R_below (by (with_reducible repeat (first | apply Kd.R_alloc | apply Kd.R_drewN | apply Kd.R_drew)); exact HO_224000.out) hb); have n1_ := Aside0.mk (Kd.R_below (by (with_reducible repeat (first | apply Kd.R_alloc | apply Kd.R_drewN | apply Kd.R_drew)); exact HO_224001.out) hb); have n2_ := Aside0.mk (Kd.R_below (by (with_reducible repeat (first | apply Kd.R_alloc | apply Kd.R_drewN | apply Kd.R_drew)); exact HO_232000.out) hb); have n3_ := Aside0.mk (Kd.R_below (by (with_reducible repeat (first | apply Kd.R_alloc | apply Kd.R_drewN | apply Kd.R_drew)); exact HO_232001.out) hb); have n4_ := Aside0.mk (blk_below (g := gb223) (o := .cells #[.slice Ao8 t216.length co8, .slice Ao10 t219.length co10] 36 (0, 0)) (by (with_reducible repeat (first | refine blk_drewN ?_ _ | refine blk_drew ?_ | refine blk_alloc ?_ _)); exact BK223.out) hb); have n5_ := Aside0.mk (blk_below (g := gb231) (o := .cells #[.slice Ao13 t224.length co13, .slice Ao16 t227.length co16] 36 (0, 0)) (by (with_reducible repeat (first | refine blk_drewN ?_ _ | refine blk_drew ?_ | refine blk_alloc ?_ _)); exact BK231.out) hb); have n6_ := Aside0.mk (below_step (by repeat (first | (with_reducible first | exact HB.out | apply below_alloc | apply pw_below_drewN | apply below_drew1 | refine below_set ?_ GE223.out | refine below_set ?_ GE231.out) | exact HB.out)) hb); clear HO_224000; clear HO_224001; clear HO_232000; clear HO_232001; clear BK223; clear BK231; clear HB; have HO_224000 := n0_; have HO_224001 := n1_; have HO_232000 := n2_; have HO_232001 := n3_; have BK223 := n4_; have BK231 := n5_; have HB := n6_; clear n0_ n1_ n2_ n3_ n4_ n5_ n6_; (try clear hb); (try clear hb2); (try clear hk); (try clear hi)))
            go_ret
            exact ⟨by first | rfl | (simp [errW_none, errW_some] <;> rfl) | (simp [*, errW_none, errW_some] <;> rfl), by repeat (first | (with_reducible first | exact HB.out | apply below_alloc | apply pw_below_drewN | apply below_drew1 | refine below_set ?_ GE223.out | refine below_set ?_ GE231.out) | exact HB.out)⟩
          · rw [if_neg c30] at H
            have c30b0 : decide (t236 < 0) = false := decide_eq_false c30
            clear c30
            by_cases c36 : t236 = t233
            · rw [if_pos c36] at H
              have c36b0 : (t236 == t233) = true := beq_iff_eq.mpr c36
              have c36b1 : (t236 != t233) = false := bne_eq_false_iff_eq.mpr c36
              clear c36
              replace H := Option.bind_eq_some_iff.mp H
              obtain ⟨⟨t237, t240, t243⟩, A370, H⟩ := H
              replace H : ((laws_eqSpace.f kj4 t237 t240 t216 t219).bind fun t245 => (if t245 = true then (laws_FnExactDecodeSpace.j1 kj4 t233 (t243 != t222) t234 t235) else (laws_FnExactDecodeSpace.j1 kj4 t233 true t234 t235))) = some r := H
              have A37 := Aside0.mk A370
              clear A370
              have HC38 := Aside0.mk H
              clear H
              have hnb39 := NB231_223.out
              have hnc39 := NB223_231.out
              have hcz40_0 : wc.cell? ⟨gb231, 0, none⟩ = some (.slice Ao13 t224.length co13) := (blk_cell BK231.out 0).trans rfl
              have hcz40_1 : wc.cell? ⟨gb231, 1, none⟩ = some (.slice Ao16 t227.length co16) := (blk_cell BK231.out 1).trans rfl
              have hfz40_0 := blk_frozen BK231.out 0
              have hfz40_1 := blk_frozen BK231.out 1
              go_upto_region 16 with (first | ((with_reducible refine gate_callee (f := 19) rfl ?_); refine goesL_ (some 35) rfl rfl Try.func19 (by kernel_rfl) rfl #[.agg #[.slice Ao13 t224.length co13, .slice Ao16 t227.length co16], .int .i64 1] rfl (by (try simp only [List.map_toArray, List.map_cons, List.map_nil]); first | done | rfl | (simp only [List.length_drop, List.length_take]; rfl)) ?_; (with_reducible refine (laws_markSpace.calls kj4 (fun k_ => some k_ = (.slice Ao13 t224.length co13 : Value).ownBlock) (.slice Ao13 t224.length co13) t224 (fun k_ => some k_ = (.slice Ao16 t227.length co16 : Value).ownBlock) (.slice Ao16 t227.length co16) t227 1 t233 t234 t235 w _ ?side1 ?side2 ?side3 ?side4 ?side5 A28.out).mono ?_); (case side1 => repeat (first | (with_reducible first | exact HB.out | apply below_alloc | apply pw_below_drewN | apply below_drew1 | refine below_set ?_ GE223.out | refine below_set ?_ GE231.out) | exact HB.out)); (case side2 => exact Kd.R_tight rfl HO_232000.out); (case side3 => exact fun k_ e_ => (HO_232000.out.1 k_ e_.symm).2.2); (case side4 => exact Kd.R_tight rfl HO_232001.out); (case side5 => exact fun k_ e_ => (HO_232001.out.1 k_ e_.symm).2.2); rintro e w41 ⟨rfl, hy0, hy1, hb, hkp⟩; refine ⟨_, rfl, ?_⟩; have n0_ := Aside0.mk (Kd.R_mono (ok' := fun k_ => some k_ ≠ (.slice Ao10 t219.length co10 : Value).ownBlock ∧ some k_ ≠ (.slice Ao13 t224.length co13 : Value).ownBlock ∧ some k_ ≠ (.slice Ao16 t227.length co16 : Value).ownBlock) (Kd.R_keptB (HO_224000.out) hkp (fun k_ hk_ hs_ => Or.elim hs_ (fun e_ => (hk_.2.1) e_) (fun e_ => (hk_.2.2) e_))) (fun k_ hk_ => ⟨hk_.1.1, hk_.1.2.1, hk_.1.2.2⟩)); have n1_ := Aside0.mk (Kd.R_mono (ok' := fun k_ => some k_ ≠ (.slice Ao8 t216.length co8 : Value).ownBlock ∧ some k_ ≠ (.slice Ao13 t224.length co13 : Value).ownBlock ∧ some k_ ≠ (.slice Ao16 t227.length co16 : Value).ownBlock) (Kd.R_keptB (HO_224001.out) hkp (fun k_ hk_ hs_ => Or.elim hs_ (fun e_ => (hk_.2.1) e_) (fun e_ => (hk_.2.2) e_))) (fun k_ hk_ => ⟨hk_.1.1, hk_.1.2.1, hk_.1.2.2⟩)); have n2_ := Aside0.mk (Kd.R_reok rfl hy0 (fun k_ e_ => HO_232000.out.1 k_ e_)); have n3_ := Aside0.mk (Kd.R_reok rfl hy1 (fun k_ e_ => HO_232001.out.1 k_ e_)); have n4_ := Aside0.mk (blk_kept (by (with_reducible repeat (first | refine blk_drewN ?_ _ | refine blk_drew ?_ | refine blk_alloc ?_ _)); exact BK223.out) hkp (fun hs_ => Or.elim hs_ (fun e_ => (fun e_ => (Kd.R_ne HO_232000.out BK223.out (by decide)) e_) e_) (fun e_ => (fun e_ => (Kd.R_ne HO_232001.out BK223.out (by decide)) e_) e_))); have n5_ := Aside0.mk (blk_kept (by (with_reducible repeat (first | refine blk_drewN ?_ _ | refine blk_drew ?_ | refine blk_alloc ?_ _)); exact BK231.out) hkp (fun hs_ => Or.elim hs_ (fun e_ => (fun e_ => (Kd.R_ne HO_232000.out BK231.out (by decide)) e_) e_) (fun e_ => (fun e_ => (Kd.R_ne HO_232001.out BK231.out (by decide)) e_) e_))); have n6_ := Aside0.mk (hb); clear HO_224000; clear HO_224001; clear HO_232000; clear HO_232001; clear BK223; clear BK231; clear HB; have HO_224000 := n0_; have HO_224001 := n1_; have HO_232000 := n2_; have HO_232001 := n3_; have BK223 := n4_; have BK231 := n5_; have HB := n6_; clear n0_ n1_ n2_ n3_ n4_ n5_ n6_; (try clear hb); (try clear hkp); (try clear hy0); (try clear hy1); have hcz42_0 : w41.cell? ⟨gb231, 0, none⟩ = some (.slice Ao13 t224.length co13) := (blk_cell BK231.out 0).trans rfl; have hcz42_1 : w41.cell? ⟨gb231, 1, none⟩ = some (.slice Ao16 t227.length co16) := (blk_cell BK231.out 1).trans rfl; have hfz42_0 := blk_frozen BK231.out 0; have hfz42_1 := blk_frozen BK231.out 1) | ((with_reducible refine gate_callee (f := 20) rfl ?_); refine goesL_ (some 38) rfl rfl Try.func20 (by kernel_rfl) rfl #[.agg #[.slice Ao13 t234.length co13, .slice Ao16 t235.length co16], .int .i64 1] rfl (by (try simp only [List.map_toArray, List.map_cons, List.map_nil]); first | done | (rw [show t234.length = t224.length from (Kd.R_reads' HO_232000.out).1.symm, show t235.length = t227.length from (Kd.R_reads' HO_232001.out).1.symm] <;> rfl) | rfl | (simp only [List.length_drop, List.length_take]; rfl)) ?_; (with_reducible refine (laws_heldSpace.calls kj4 _ _ t234 _ _ t235 1 t236 _ ?side1 ?side2 ?side3 ?side4 A29.out).mono ?_); (case side1 => repeat (first | exact (Kd.R_reads' HO_232000.out).2.2 | (with_reducible refine Kd.C_alloc ?_ _) | (with_reducible refine Kd.C_drewN ?_ _) | (with_reducible refine Kd.C_drew ?_))); (case side2 => rw [show t234.length = t224.length from (Kd.R_reads' HO_232000.out).1.symm]; exact (Kd.R_reads' HO_232000.out).2.1); (case side3 => repeat (first | exact (Kd.R_reads' HO_232001.out).2.2 | (with_reducible refine Kd.C_alloc ?_ _) | (with_reducible refine Kd.C_drewN ?_ _) | (with_reducible refine Kd.C_drew ?_))); (case side4 => rw [show t235.length = t227.length from (Kd.R_reads' HO_232001.out).1.symm]; exact (Kd.R_reads' HO_232001.out).2.1); rintro e w43 ⟨rfl, hb⟩; refine ⟨_, rfl, ?_⟩; have n0_ := Aside0.mk (Kd.R_below (by (with_reducible repeat (first | apply Kd.R_alloc | apply Kd.R_drewN | apply Kd.R_drew)); exact HO_224000.out) hb); have n1_ := Aside0.mk (Kd.R_below (by (with_reducible repeat (first | apply Kd.R_alloc | apply Kd.R_drewN | apply Kd.R_drew)); exact HO_224001.out) hb); have n2_ := Aside0.mk (Kd.R_below (by (with_reducible repeat (first | apply Kd.R_alloc | apply Kd.R_drewN | apply Kd.R_drew)); exact HO_232000.out) hb); have n3_ := Aside0.mk (Kd.R_below (by (with_reducible repeat (first | apply Kd.R_alloc | apply Kd.R_drewN | apply Kd.R_drew)); exact HO_232001.out) hb); have n4_ := Aside0.mk (blk_below (g := gb223) (o := .cells #[.slice Ao8 t216.length co8, .slice Ao10 t219.length co10] 36 (0, 0)) (by (with_reducible repeat (first | refine blk_drewN ?_ _ | refine blk_drew ?_ | refine blk_alloc ?_ _)); exact BK223.out) hb); have n5_ := Aside0.mk (blk_below (g := gb231) (o := .cells #[.slice Ao13 t224.length co13, .slice Ao16 t227.length co16] 36 (0, 0)) (by (with_reducible repeat (first | refine blk_drewN ?_ _ | refine blk_drew ?_ | refine blk_alloc ?_ _)); exact BK231.out) hb); have n6_ := Aside0.mk (below_step (by repeat (first | (with_reducible first | exact HB.out | apply below_alloc | apply pw_below_drewN | apply below_drew1 | refine below_set ?_ GE223.out | refine below_set ?_ GE231.out) | exact HB.out)) hb); clear HO_224000; clear HO_224001; clear HO_232000; clear HO_232001; clear BK223; clear BK231; clear HB; have HO_224000 := n0_; have HO_224001 := n1_; have HO_232000 := n2_; have HO_232001 := n3_; have BK223 := n4_; have BK231 := n5_; have HB := n6_; clear n0_ n1_ n2_ n3_ n4_ n5_ n6_; (try clear hb); (try clear hb2); (try clear hk); (try clear hi)) | ((with_reducible refine gate_callee (f := 17) rfl ?_); refine goesL_ (some 46) rfl rfl Try.func17 (by kernel_rfl) rfl #[.string a0] rfl (by (try simp only [List.map_toArray, List.map_cons, List.map_nil]); first | done | rfl | (simp only [List.length_drop, List.length_take]; rfl)) ?_; (with_reducible refine (impl_DecodeSpace.calls kj4 a0 t237 t240 t243 _ A37.out).mono ?_); rintro e w44 ⟨v238, v241, rfl, ho0, ho1, hb⟩; refine ⟨_, rfl, ?_⟩; have n0_ := Aside0.mk (Kd.R_mono (Kd.R_told (Kd.R_told (Kd.R_old (by (with_reducible repeat (first | apply Kd.R_alloc | apply Kd.R_drewN | apply Kd.R_drew)); exact HO_224000.out) hb) (Kd.R_base ho0)) (Kd.R_base ho1)) (fun _ h_ => h_.1)); have n1_ := Aside0.mk (Kd.R_mono (Kd.R_told (Kd.R_told (Kd.R_old (by (with_reducible repeat (first | apply Kd.R_alloc | apply Kd.R_drewN | apply Kd.R_drew)); exact HO_224001.out) hb) (Kd.R_base ho0)) (Kd.R_base ho1)) (fun _ h_ => h_.1)); have n2_ := Aside0.mk (Kd.R_mono (Kd.R_told (Kd.R_told (Kd.R_old (by (with_reducible repeat (first | apply Kd.R_alloc | apply Kd.R_drewN | apply Kd.R_drew)); exact HO_232000.out) hb) (Kd.R_base ho0)) (Kd.R_base ho1)) (fun _ h_ => h_.1)); have n3_ := Aside0.mk (Kd.R_mono (Kd.R_told (Kd.R_told (Kd.R_old (by (with_reducible repeat (first | apply Kd.R_alloc | apply Kd.R_drewN | apply Kd.R_drew)); exact HO_232001.out) hb) (Kd.R_base ho0)) (Kd.R_base ho1)) (fun _ h_ => h_.1)); have n4_ := Aside0.mk (Kd.R_lower (Kd.R_new' (Kd.R_new' (Kd.R_new' (Kd.R_new' ho0 (Kd.R_lt (by (with_reducible repeat (first | apply Kd.R_alloc | apply Kd.R_drewN | apply Kd.R_drew)); exact HO_224000.out))) (Kd.R_lt (by (with_reducible repeat (first | apply Kd.R_alloc | apply Kd.R_drewN | apply Kd.R_drew)); exact HO_224001.out))) (Kd.R_lt (by (with_reducible repeat (first | apply Kd.R_alloc | apply Kd.R_drewN | apply Kd.R_drew)); exact HO_232000.out))) (Kd.R_lt (by (with_reducible repeat (first | apply Kd.R_alloc | apply Kd.R_drewN | apply Kd.R_drew)); exact HO_232001.out))) (below_size (by repeat (first | (with_reducible first | exact HB.out | apply below_alloc | apply pw_below_drewN | apply below_drew1 | refine below_set ?_ GE223.out | refine below_set ?_ GE231.out) | exact HB.out)))); have n5_ := Aside0.mk (Kd.R_lower (Kd.R_new' (Kd.R_new' (Kd.R_new' (Kd.R_new' ho1 (Kd.R_lt (by (with_reducible repeat (first | apply Kd.R_alloc | apply Kd.R_drewN | apply Kd.R_drew)); exact HO_224000.out))) (Kd.R_lt (by (with_reducible repeat (first | apply Kd.R_alloc | apply Kd.R_drewN | apply Kd.R_drew)); exact HO_224001.out))) (Kd.R_lt (by (with_reducible repeat (first | apply Kd.R_alloc | apply Kd.R_drewN | apply Kd.R_drew)); exact HO_232000.out))) (Kd.R_lt (by (with_reducible repeat (first | apply Kd.R_alloc | apply Kd.R_drewN | apply Kd.R_drew)); exact HO_232001.out))) (below_size (by repeat (first | (with_reducible first | exact HB.out | apply below_alloc | apply pw_below_drewN | apply below_drew1 | refine below_set ?_ GE223.out | refine below_set ?_ GE231.out) | exact HB.out)))); have n6_ := Aside0.mk (blk_below (g := gb223) (o := .cells #[.slice Ao8 t216.length co8, .slice Ao10 t219.length co10] 36 (0, 0)) (by (with_reducible repeat (first | refine blk_drewN ?_ _ | refine blk_drew ?_ | refine blk_alloc ?_ _)); exact BK223.out) hb); have n7_ := Aside0.mk (blk_below (g := gb231) (o := .cells #[.slice Ao13 t224.length co13, .slice Ao16 t227.length co16] 36 (0, 0)) (by (with_reducible repeat (first | refine blk_drewN ?_ _ | refine blk_drew ?_ | refine blk_alloc ?_ _)); exact BK231.out) hb); have n8_ := Aside0.mk (below_step (by repeat (first | (with_reducible first | exact HB.out | apply below_alloc | apply pw_below_drewN | apply below_drew1 | refine below_set ?_ GE223.out | refine below_set ?_ GE231.out) | exact HB.out)) hb); clear HO_224000; clear HO_224001; clear HO_232000; clear HO_232001; clear BK223; clear BK231; clear HB; have HO_224000 := n0_; have HO_224001 := n1_; have HO_232000 := n2_; have HO_232001 := n3_; have HO239 := n4_; have HO242 := n5_; have BK223 := n6_; have BK231 := n7_; have HB := n8_; clear n0_ n1_ n2_ n3_ n4_ n5_ n6_ n7_ n8_; (try clear hb); (try clear hb2); (try clear hk); (try clear hi); (try clear ho0); (try clear ho1)) | ((with_reducible refine gate_dst (N := 9) rfl ?_); refine box_event ?hg (N := 9) ?hd (cs := #[.slice none 0 0, .slice none 0 0]) (t := 36) ?hr ?_; (case hd => rfl); (case hg => rfl); (case hr => first | (go_simp; done) | (go_simp; rfl)); intro gb244 hg w45 hbox hb; have n0_ := Aside0.mk (Kd.R_below (by (with_reducible repeat (first | apply Kd.R_alloc | apply Kd.R_drewN | apply Kd.R_drew)); exact HO_224000.out) hb); have n1_ := Aside0.mk (Kd.R_below (by (with_reducible repeat (first | apply Kd.R_alloc | apply Kd.R_drewN | apply Kd.R_drew)); exact HO_224001.out) hb); have n2_ := Aside0.mk (Kd.R_below (by (with_reducible repeat (first | apply Kd.R_alloc | apply Kd.R_drewN | apply Kd.R_drew)); exact HO_232000.out) hb); have n3_ := Aside0.mk (Kd.R_below (by (with_reducible repeat (first | apply Kd.R_alloc | apply Kd.R_drewN | apply Kd.R_drew)); exact HO_232001.out) hb); have n4_ := Aside0.mk (Kd.R_below (by (with_reducible repeat (first | apply Kd.R_alloc | apply Kd.R_drewN | apply Kd.R_drew)); exact HO239.out) hb); have n5_ := Aside0.mk (Kd.R_below (by (with_reducible repeat (first | apply Kd.R_alloc | apply Kd.R_drewN | apply Kd.R_drew)); exact HO242.out) hb); have n6_ := Aside0.mk (blk_below (g := gb223) (o := .cells #[.slice Ao8 t216.length co8, .slice Ao10 t219.length co10] 36 (0, 0)) (by (with_reducible repeat (first | refine blk_drewN ?_ _ | refine blk_drew ?_ | refine blk_alloc ?_ _)); exact BK223.out) hb); have n7_ := Aside0.mk (blk_below (g := gb231) (o := .cells #[.slice Ao13 t224.length co13, .slice Ao16 t227.length co16] 36 (0, 0)) (by (with_reducible repeat (first | refine blk_drewN ?_ _ | refine blk_drew ?_ | refine blk_alloc ?_ _)); exact BK231.out) hb); have n8_ := Aside0.mk (below_step (by repeat (first | (with_reducible first | exact HB.out | apply below_alloc | apply pw_below_drewN | apply below_drew1 | refine below_set ?_ GE223.out | refine below_set ?_ GE231.out) | exact HB.out)) hb); have n9_ := Aside0.mk (hbox); have n10_ := Aside0.mk ((by rw [hg]; exact (below_size (by repeat (first | (with_reducible first | exact HB.out | apply below_alloc | apply pw_below_drewN | apply below_drew1 | refine below_set ?_ GE223.out | refine below_set ?_ GE231.out) | exact HB.out))) : w.heap.size ≤ gb244)); have n11_ := Aside0.mk ((by rw [hg]; exact (below_size (by repeat (first | (with_reducible first | exact HB.out | apply below_alloc | apply pw_below_drewN | apply below_drew1 | refine below_set ?_ GE223.out | refine below_set ?_ GE231.out) | exact HB.out))) : w.heap.size ≤ gb244)); have n12_ := Aside0.mk ((by rw [hg]; exact Nat.ne_of_lt (blk_lt (g := gb223) (o := .cells #[.slice Ao8 t216.length co8, .slice Ao10 t219.length co10] 36 (0, 0)) (by (with_reducible repeat (first | refine blk_drewN ?_ _ | refine blk_drew ?_ | refine blk_alloc ?_ _)); exact BK223.out)) : gb223 ≠ gb244)); have n13_ := Aside0.mk ((by rw [hg]; exact Nat.ne_of_gt (blk_lt (g := gb223) (o := .cells #[.slice Ao8 t216.length co8, .slice Ao10 t219.length co10] 36 (0, 0)) (by (with_reducible repeat (first | refine blk_drewN ?_ _ | refine blk_drew ?_ | refine blk_alloc ?_ _)); exact BK223.out)) : gb244 ≠ gb223)); have n14_ := Aside0.mk ((by rw [hg]; exact Nat.ne_of_lt (blk_lt (g := gb231) (o := .cells #[.slice Ao13 t224.length co13, .slice Ao16 t227.length co16] 36 (0, 0)) (by (with_reducible repeat (first | refine blk_drewN ?_ _ | refine blk_drew ?_ | refine blk_alloc ?_ _)); exact BK231.out)) : gb231 ≠ gb244)); have n15_ := Aside0.mk ((by rw [hg]; exact Nat.ne_of_gt (blk_lt (g := gb231) (o := .cells #[.slice Ao13 t224.length co13, .slice Ao16 t227.length co16] 36 (0, 0)) (by (with_reducible repeat (first | refine blk_drewN ?_ _ | refine blk_drew ?_ | refine blk_alloc ?_ _)); exact BK231.out)) : gb244 ≠ gb231)); clear HO_224000; clear HO_224001; clear HO_232000; clear HO_232001; clear HO239; clear HO242; clear BK223; clear BK231; clear HB; have HO_224000 := n0_; have HO_224001 := n1_; have HO_232000 := n2_; have HO_232001 := n3_; have HO239 := n4_; have HO242 := n5_; have BK223 := n6_; have BK231 := n7_; have HB := n8_; have BK244 := n9_; have GW244 := n10_; have GE244 := n11_; have NB223_244 := n12_; have NB244_223 := n13_; have NB231_244 := n14_; have NB244_231 := n15_; clear n0_ n1_ n2_ n3_ n4_ n5_ n6_ n7_ n8_ n9_ n10_ n11_ n12_ n13_ n14_ n15_; clear hb hbox hg; obtain ⟨Ao46, co46, eo46⟩ := Kd.R_slice HO239.out; subst eo46; have hnb47 := NB244_223.out; have hnc47 := NB223_244.out; have hnb48 := NB244_231.out; have hnc48 := NB231_244.out; have hcz49_0 : w45.cell? ⟨gb244, 0, none⟩ = some (.slice none 0 0) := (blk_cell BK244.out 0).trans rfl; have hcz49_1 : w45.cell? ⟨gb244, 1, none⟩ = some (.slice none 0 0) := (blk_cell BK244.out 1).trans rfl; have hfz49_0 := blk_frozen BK244.out 0; have hfz49_1 := blk_frozen BK244.out 1; obtain ⟨Ao50, co50, eo50⟩ := Kd.R_slice HO242.out; subst eo50))
              (try simp only [Act.put, List.setIfInBounds_toArray, List.set_cons_zero, List.set_cons_succ])
              go_cut [57] (fun v57 wc => ∃ (kq : Nat) (x57_37 : Bool), v57 = .bool x57_37 ∧ Aside0 (laws_FnExactDecodeSpace.j1 kq t233 x57_37 t234 t235 = some r) ∧ Aside0 (kq ≤ kj4) ∧ Aside0 (Kd.R (Kd.int .i64) 2 wc w.heap.size (fun k_ => some k_ ≠ ((.slice Ao10 t219.length co10) : Value).ownBlock ∧ some k_ ≠ ((.slice Ao13 t224.length co13) : Value).ownBlock ∧ some k_ ≠ ((.slice Ao16 t227.length co16) : Value).ownBlock ∧ some k_ ≠ ((.slice Ao46 t237.length co46) : Value).ownBlock ∧ some k_ ≠ ((.slice Ao50 t240.length co50) : Value).ownBlock) (.slice Ao8 t216.length co8) t216) ∧ Aside0 (Kd.R (Kd.int .i64) 2 wc w.heap.size (fun k_ => some k_ ≠ ((.slice Ao8 t216.length co8) : Value).ownBlock ∧ some k_ ≠ ((.slice Ao13 t224.length co13) : Value).ownBlock ∧ some k_ ≠ ((.slice Ao16 t227.length co16) : Value).ownBlock ∧ some k_ ≠ ((.slice Ao46 t237.length co46) : Value).ownBlock ∧ some k_ ≠ ((.slice Ao50 t240.length co50) : Value).ownBlock) (.slice Ao10 t219.length co10) t219) ∧ Aside0 (Kd.R (Kd.int .i64) 2 wc w.heap.size (fun k_ => some k_ ≠ ((.slice Ao8 t216.length co8) : Value).ownBlock ∧ some k_ ≠ ((.slice Ao10 t219.length co10) : Value).ownBlock ∧ some k_ ≠ ((.slice Ao16 t227.length co16) : Value).ownBlock ∧ some k_ ≠ ((.slice Ao46 t237.length co46) : Value).ownBlock ∧ some k_ ≠ ((.slice Ao50 t240.length co50) : Value).ownBlock) (.slice Ao13 t224.length co13) t234) ∧ Aside0 (Kd.R (Kd.int .i64) 2 wc w.heap.size (fun k_ => some k_ ≠ ((.slice Ao8 t216.length co8) : Value).ownBlock ∧ some k_ ≠ ((.slice Ao10 t219.length co10) : Value).ownBlock ∧ some k_ ≠ ((.slice Ao13 t224.length co13) : Value).ownBlock ∧ some k_ ≠ ((.slice Ao46 t237.length co46) : Value).ownBlock ∧ some k_ ≠ ((.slice Ao50 t240.length co50) : Value).ownBlock) (.slice Ao16 t227.length co16) t235) ∧ Aside0 (Kd.R (Kd.int .i64) 2 wc w.heap.size (fun k_ => some k_ ≠ ((.slice Ao8 t216.length co8) : Value).ownBlock ∧ some k_ ≠ ((.slice Ao10 t219.length co10) : Value).ownBlock ∧ some k_ ≠ ((.slice Ao13 t224.length co13) : Value).ownBlock ∧ some k_ ≠ ((.slice Ao16 t227.length co16) : Value).ownBlock ∧ some k_ ≠ ((.slice Ao50 t240.length co50) : Value).ownBlock) (.slice Ao46 t237.length co46) t237) ∧ Aside0 (Kd.R (Kd.int .i64) 2 wc w.heap.size (fun k_ => some k_ ≠ ((.slice Ao8 t216.length co8) : Value).ownBlock ∧ some k_ ≠ ((.slice Ao10 t219.length co10) : Value).ownBlock ∧ some k_ ≠ ((.slice Ao13 t224.length co13) : Value).ownBlock ∧ some k_ ≠ ((.slice Ao16 t227.length co16) : Value).ownBlock ∧ some k_ ≠ ((.slice Ao46 t237.length co46) : Value).ownBlock) (.slice Ao50 t240.length co50) t240) ∧ Aside0 (wc.heap[gb223]? = some (.cells #[(.slice Ao8 t216.length co8), (.slice Ao10 t219.length co10)] 36 (0, 0))) ∧ Aside0 (wc.heap[gb231]? = some (.cells #[(.slice Ao13 t224.length co13), (.slice Ao16 t227.length co16)] 36 (0, 0))) ∧ Aside0 (wc.heap[gb244]? = some (.cells #[(.slice Ao46 t237.length co46), (.slice Ao50 t240.length co50)] 36 (0, 0))) ∧ Aside0 (Below w.heap.size w wc))
              case first =>
                have H := HC38.out
                clear HC38
                replace H := Option.bind_eq_some_iff.mp H
                obtain ⟨t245, A510, H⟩ := H
                replace H : (if t245 = true then (laws_FnExactDecodeSpace.j1 kj4 t233 (t243 != t222) t234 t235) else (laws_FnExactDecodeSpace.j1 kj4 t233 true t234 t235)) = some r := H
                have A51 := Aside0.mk A510
                clear A510
                by_cases c52 : t245 = true
                · subst c52
                  have H1 : (laws_FnExactDecodeSpace.j1 kj4 t233 (t243 != t222) t234 t235) = some r := by rw [if_pos rfl] at H; exact H
                  clear H
                  have H := H1
                  clear H1
                  have H' := Aside0.mk H
                  clear H
                  have hnb53 := NB244_223.out
                  have hnc53 := NB223_244.out
                  have hnb54 := NB244_231.out
                  have hnc54 := NB231_244.out
                  have hcz55_0 : w45.cell? ⟨gb244, 0, none⟩ = some (.slice none 0 0) := (blk_cell BK244.out 0).trans rfl
                  have hcz55_1 : w45.cell? ⟨gb244, 1, none⟩ = some (.slice none 0 0) := (blk_cell BK244.out 1).trans rfl
                  have hfz55_0 := blk_frozen BK244.out 0
                  have hfz55_1 := blk_frozen BK244.out 1
                  have hnb56 := NB223_231.out
                  have hnc56 := NB231_223.out
                  have hcz57_0 : w45.cell? ⟨gb223, 0, none⟩ = some (.slice Ao8 t216.length co8) := (blk_cell BK223.out 0).trans rfl
                  have hcz57_1 : w45.cell? ⟨gb223, 1, none⟩ = some (.slice Ao10 t219.length co10) := (blk_cell BK223.out 1).trans rfl
                  have hfz57_0 := blk_frozen BK223.out 0
                  have hfz57_1 := blk_frozen BK223.out 1
                  go_wp2_with (first | ((with_reducible refine gate_callee (f := 18) rfl ?_); refine goesL_ (some 51) rfl rfl Try.func18 (by kernel_rfl) rfl #[.agg #[.slice Ao46 t237.length co46, .slice Ao50 t240.length co50], .agg #[.slice Ao8 t216.length co8, .slice Ao10 t219.length co10]] rfl (by (try simp only [List.map_toArray, List.map_cons, List.map_nil]); first | done | rfl | (simp only [List.length_drop, List.length_take]; rfl)) ?_; (with_reducible refine (laws_eqSpace.calls kj4 _ _ t237 _ _ t240 _ _ t216 _ _ t219 true _ ?side1 ?side2 ?side3 ?side4 ?side5 ?side6 ?side7 ?side8 A51.out).mono ?_); (case side1 => refine (Kd.R_reads' (e := 2) (base := w.heap.size) (ok := fun k_ => ((((some k_ ≠ (.slice Ao50 t240.length co50 : Value).ownBlock ∧ some k_ ≠ (.slice Ao8 t216.length co8 : Value).ownBlock) ∧ some k_ ≠ (.slice Ao10 t219.length co10 : Value).ownBlock) ∧ some k_ ≠ (.slice Ao13 t224.length co13 : Value).ownBlock) ∧ some k_ ≠ (.slice Ao16 t227.length co16 : Value).ownBlock)) (n := t237.length) (c := co46) ?_).2.2; exact (by (with_reducible repeat (first | apply Kd.R_alloc | apply Kd.R_drewN | apply Kd.R_drew)); exact (Kd.R_mono (Kd.R_far (p := ⟨gb244, 1, none⟩) (Kd.R_far (p := ⟨gb244, 0, none⟩) (Kd.R_types HO239.out BK244.out (by decide)) (fun _ hk => hk.2) (.slice Ao46 t237.length co46)) (fun _ hk => hk.2) (.slice Ao50 t240.length co50)) (fun _ h_ => h_.1)))); (case side2 => exact (Kd.R_reads' HO239.out).2.1); (case side3 => refine (Kd.R_reads' (e := 2) (base := w.heap.size) (ok := fun k_ => ((((some k_ ≠ (.slice Ao46 t237.length co46 : Value).ownBlock ∧ some k_ ≠ (.slice Ao8 t216.length co8 : Value).ownBlock) ∧ some k_ ≠ (.slice Ao10 t219.length co10 : Value).ownBlock) ∧ some k_ ≠ (.slice Ao13 t224.length co13 : Value).ownBlock) ∧ some k_ ≠ (.slice Ao16 t227.length co16 : Value).ownBlock)) (n := t240.length) (c := co50) ?_).2.2; exact (by (with_reducible repeat (first | apply Kd.R_alloc | apply Kd.R_drewN | apply Kd.R_drew)); exact (Kd.R_mono (Kd.R_far (p := ⟨gb244, 1, none⟩) (Kd.R_far (p := ⟨gb244, 0, none⟩) (Kd.R_types HO242.out BK244.out (by decide)) (fun _ hk => hk.2) (.slice Ao46 t237.length co46)) (fun _ hk => hk.2) (.slice Ao50 t240.length co50)) (fun _ h_ => h_.1)))); (case side4 => exact (Kd.R_reads' HO242.out).2.1); (case side5 => refine (Kd.R_reads' (e := 2) (base := w.heap.size) (ok := fun k_ => (((some k_ ≠ (.slice Ao10 t219.length co10 : Value).ownBlock ∧ (some k_ ≠ (.slice Ao13 t224.length co13 : Value).ownBlock ∧ some k_ ≠ (.slice Ao16 t227.length co16 : Value).ownBlock)) ∧ some k_ ≠ (.slice Ao46 t237.length co46 : Value).ownBlock) ∧ some k_ ≠ (.slice Ao50 t240.length co50 : Value).ownBlock)) (n := t216.length) (c := co8) ?_).2.2; exact (by (with_reducible repeat (first | apply Kd.R_alloc | apply Kd.R_drewN | apply Kd.R_drew)); exact (Kd.R_mono (Kd.R_far (p := ⟨gb244, 1, none⟩) (Kd.R_far (p := ⟨gb244, 0, none⟩) (Kd.R_types HO_224000.out BK244.out (by decide)) (fun _ hk => hk.2) (.slice Ao46 t237.length co46)) (fun _ hk => hk.2) (.slice Ao50 t240.length co50)) (fun _ h_ => h_.1)))); (case side6 => exact (Kd.R_reads' HO_224000.out).2.1); (case side7 => refine (Kd.R_reads' (e := 2) (base := w.heap.size) (ok := fun k_ => (((some k_ ≠ (.slice Ao8 t216.length co8 : Value).ownBlock ∧ (some k_ ≠ (.slice Ao13 t224.length co13 : Value).ownBlock ∧ some k_ ≠ (.slice Ao16 t227.length co16 : Value).ownBlock)) ∧ some k_ ≠ (.slice Ao46 t237.length co46 : Value).ownBlock) ∧ some k_ ≠ (.slice Ao50 t240.length co50 : Value).ownBlock)) (n := t219.length) (c := co10) ?_).2.2; exact (by (with_reducible repeat (first | apply Kd.R_alloc | apply Kd.R_drewN | apply Kd.R_drew)); exact (Kd.R_mono (Kd.R_far (p := ⟨gb244, 1, none⟩) (Kd.R_far (p := ⟨gb244, 0, none⟩) (Kd.R_types HO_224001.out BK244.out (by decide)) (fun _ hk => hk.2) (.slice Ao46 t237.length co46)) (fun _ hk => hk.2) (.slice Ao50 t240.length co50)) (fun _ h_ => h_.1)))); (case side8 => exact (Kd.R_reads' HO_224001.out).2.1); rintro e w58 ⟨rfl, hb⟩; refine ⟨_, rfl, ?_⟩; have n0_ := Aside0.mk (Kd.R_below (by (with_reducible repeat (first | apply Kd.R_alloc | apply Kd.R_drewN | apply Kd.R_drew)); exact (Kd.R_mono (Kd.R_far (p := ⟨gb244, 1, none⟩) (Kd.R_far (p := ⟨gb244, 0, none⟩) (Kd.R_types HO_224000.out BK244.out (by decide)) (fun _ hk => hk.2) (.slice Ao46 t237.length co46)) (fun _ hk => hk.2) (.slice Ao50 t240.length co50)) (fun _ h_ => h_.1))) hb); have n1_ := Aside0.mk (Kd.R_below (by (with_reducible repeat (first | apply Kd.R_alloc | apply Kd.R_drewN | apply Kd.R_drew)); exact (Kd.R_mono (Kd.R_far (p := ⟨gb244, 1, none⟩) (Kd.R_far (p := ⟨gb244, 0, none⟩) (Kd.R_types HO_224001.out BK244.out (by decide)) (fun _ hk => hk.2) (.slice Ao46 t237.length co46)) (fun _ hk => hk.2) (.slice Ao50 t240.length co50)) (fun _ h_ => h_.1))) hb); have n2_ := Aside0.mk (Kd.R_below (by (with_reducible repeat (first | apply Kd.R_alloc | apply Kd.R_drewN | apply Kd.R_drew)); exact (Kd.R_mono (Kd.R_far (p := ⟨gb244, 1, none⟩) (Kd.R_far (p := ⟨gb244, 0, none⟩) (Kd.R_types HO_232000.out BK244.out (by decide)) (fun _ hk => hk.2) (.slice Ao46 t237.length co46)) (fun _ hk => hk.2) (.slice Ao50 t240.length co50)) (fun _ h_ => h_.1))) hb); have n3_ := Aside0.mk (Kd.R_below (by (with_reducible repeat (first | apply Kd.R_alloc | apply Kd.R_drewN | apply Kd.R_drew)); exact (Kd.R_mono (Kd.R_far (p := ⟨gb244, 1, none⟩) (Kd.R_far (p := ⟨gb244, 0, none⟩) (Kd.R_types HO_232001.out BK244.out (by decide)) (fun _ hk => hk.2) (.slice Ao46 t237.length co46)) (fun _ hk => hk.2) (.slice Ao50 t240.length co50)) (fun _ h_ => h_.1))) hb); have n4_ := Aside0.mk (Kd.R_below (by (with_reducible repeat (first | apply Kd.R_alloc | apply Kd.R_drewN | apply Kd.R_drew)); exact (Kd.R_mono (Kd.R_far (p := ⟨gb244, 1, none⟩) (Kd.R_far (p := ⟨gb244, 0, none⟩) (Kd.R_types HO239.out BK244.out (by decide)) (fun _ hk => hk.2) (.slice Ao46 t237.length co46)) (fun _ hk => hk.2) (.slice Ao50 t240.length co50)) (fun _ h_ => h_.1))) hb); have n5_ := Aside0.mk (Kd.R_below (by (with_reducible repeat (first | apply Kd.R_alloc | apply Kd.R_drewN | apply Kd.R_drew)); exact (Kd.R_mono (Kd.R_far (p := ⟨gb244, 1, none⟩) (Kd.R_far (p := ⟨gb244, 0, none⟩) (Kd.R_types HO242.out BK244.out (by decide)) (fun _ hk => hk.2) (.slice Ao46 t237.length co46)) (fun _ hk => hk.2) (.slice Ao50 t240.length co50)) (fun _ h_ => h_.1))) hb); have n6_ := Aside0.mk (blk_below (g := gb223) (o := .cells #[.slice Ao8 t216.length co8, .slice Ao10 t219.length co10] 36 (0, 0)) (by (with_reducible repeat (first | refine blk_drewN ?_ _ | refine blk_drew ?_ | refine blk_alloc ?_ _)); refine blk_far ?_ NB223_244.out _; (with_reducible repeat (first | refine blk_drewN ?_ _ | refine blk_drew ?_ | refine blk_alloc ?_ _)); refine blk_far ?_ NB223_244.out _; (with_reducible repeat (first | refine blk_drewN ?_ _ | refine blk_drew ?_ | refine blk_alloc ?_ _)); exact BK223.out) hb); have n7_ := Aside0.mk (blk_below (g := gb231) (o := .cells #[.slice Ao13 t224.length co13, .slice Ao16 t227.length co16] 36 (0, 0)) (by (with_reducible repeat (first | refine blk_drewN ?_ _ | refine blk_drew ?_ | refine blk_alloc ?_ _)); refine blk_far ?_ NB231_244.out _; (with_reducible repeat (first | refine blk_drewN ?_ _ | refine blk_drew ?_ | refine blk_alloc ?_ _)); refine blk_far ?_ NB231_244.out _; (with_reducible repeat (first | refine blk_drewN ?_ _ | refine blk_drew ?_ | refine blk_alloc ?_ _)); exact BK231.out) hb); have n8_ := Aside0.mk (blk_below (g := gb244) (o := .cells #[.slice Ao46 t237.length co46, .slice Ao50 t240.length co50] 36 (0, 0)) (by (with_reducible repeat (first | refine blk_drewN ?_ _ | refine blk_drew ?_ | refine blk_alloc ?_ _)); refine blk_put (cs := #[.slice Ao46 t237.length co46, .slice none 0 0]) ?_ 1 _ rfl; (with_reducible repeat (first | refine blk_drewN ?_ _ | refine blk_drew ?_ | refine blk_alloc ?_ _)); refine blk_put (cs := #[.slice none 0 0, .slice none 0 0]) ?_ 0 _ rfl; (with_reducible repeat (first | refine blk_drewN ?_ _ | refine blk_drew ?_ | refine blk_alloc ?_ _)); exact BK244.out) hb); have n9_ := Aside0.mk (below_step (by repeat (first | (with_reducible first | exact HB.out | apply below_alloc | apply pw_below_drewN | apply below_drew1 | refine below_set ?_ GE223.out | refine below_set ?_ GE231.out | refine below_set ?_ GE244.out) | exact HB.out)) hb); clear HO_224000; clear HO_224001; clear HO_232000; clear HO_232001; clear HO239; clear HO242; clear BK223; clear BK231; clear BK244; clear HB; have HO_224000 := n0_; have HO_224001 := n1_; have HO_232000 := n2_; have HO_232001 := n3_; have HO239 := n4_; have HO242 := n5_; have BK223 := n6_; have BK231 := n7_; have BK244 := n8_; have HB := n9_; clear n0_ n1_ n2_ n3_ n4_ n5_ n6_ n7_ n8_ n9_; (try clear hb); (try clear hb2); (try clear hk); (try clear hi)))
                  go_meet
                  case rel => exact ⟨_, ((t243 != t222)), (by first | rfl | (simp; done) | (simp [*]; done)), H', ⟨by have := HJ4.out; first | omega | exact Nat.le_refl _⟩, ⟨by (with_reducible repeat (first | apply Kd.R_alloc | apply Kd.R_drewN | apply Kd.R_drew)); exact Kd.R_mono HO_224000.out (fun _ hk => ⟨hk.1.1.1, ⟨hk.1.1.2.1, ⟨hk.1.1.2.2, ⟨hk.1.2, hk.2⟩⟩⟩⟩)⟩, ⟨by (with_reducible repeat (first | apply Kd.R_alloc | apply Kd.R_drewN | apply Kd.R_drew)); exact Kd.R_mono HO_224001.out (fun _ hk => ⟨hk.1.1.1, ⟨hk.1.1.2.1, ⟨hk.1.1.2.2, ⟨hk.1.2, hk.2⟩⟩⟩⟩)⟩, ⟨by (with_reducible repeat (first | apply Kd.R_alloc | apply Kd.R_drewN | apply Kd.R_drew)); exact Kd.R_mono HO_232000.out (fun _ hk => ⟨hk.1.1.1, ⟨hk.1.1.2.1, ⟨hk.1.1.2.2, ⟨hk.1.2, hk.2⟩⟩⟩⟩)⟩, ⟨by (with_reducible repeat (first | apply Kd.R_alloc | apply Kd.R_drewN | apply Kd.R_drew)); exact Kd.R_mono HO_232001.out (fun _ hk => ⟨hk.1.1.1, ⟨hk.1.1.2.1, ⟨hk.1.1.2.2, ⟨hk.1.2, hk.2⟩⟩⟩⟩)⟩, ⟨by (with_reducible repeat (first | apply Kd.R_alloc | apply Kd.R_drewN | apply Kd.R_drew)); exact Kd.R_mono HO239.out (fun _ hk => ⟨hk.1.1.1.2, ⟨hk.1.1.2, ⟨hk.1.2, ⟨hk.2, hk.1.1.1.1⟩⟩⟩⟩)⟩, ⟨by (with_reducible repeat (first | apply Kd.R_alloc | apply Kd.R_drewN | apply Kd.R_drew)); exact Kd.R_mono HO242.out (fun _ hk => ⟨hk.1.1.1.2, ⟨hk.1.1.2, ⟨hk.1.2, ⟨hk.2, hk.1.1.1.1⟩⟩⟩⟩)⟩, ⟨by (with_reducible repeat (first | refine blk_drewN ?_ _ | refine blk_drew ?_ | refine blk_alloc ?_ _)); exact BK223.out⟩, ⟨by (with_reducible repeat (first | refine blk_drewN ?_ _ | refine blk_drew ?_ | refine blk_alloc ?_ _)); exact BK231.out⟩, ⟨by (with_reducible repeat (first | refine blk_drewN ?_ _ | refine blk_drew ?_ | refine blk_alloc ?_ _)); exact BK244.out⟩, ⟨by repeat (first | (with_reducible first | exact HB.out | apply below_alloc | apply pw_below_drewN | apply below_drew1 | refine below_set ?_ GE223.out | refine below_set ?_ GE231.out | refine below_set ?_ GE244.out) | exact HB.out)⟩⟩
                · replace c52 := Bool.eq_false_iff.mpr c52
                  subst c52
                  have H1 : (laws_FnExactDecodeSpace.j1 kj4 t233 true t234 t235) = some r := by rw [if_neg (show ¬ (false = true) by decide)] at H; exact H
                  clear H
                  have H := H1
                  clear H1
                  have H' := Aside0.mk H
                  clear H
                  have hnb59 := NB244_223.out
                  have hnc59 := NB223_244.out
                  have hnb60 := NB244_231.out
                  have hnc60 := NB231_244.out
                  have hcz61_0 : w45.cell? ⟨gb244, 0, none⟩ = some (.slice none 0 0) := (blk_cell BK244.out 0).trans rfl
                  have hcz61_1 : w45.cell? ⟨gb244, 1, none⟩ = some (.slice none 0 0) := (blk_cell BK244.out 1).trans rfl
                  have hfz61_0 := blk_frozen BK244.out 0
                  have hfz61_1 := blk_frozen BK244.out 1
                  have hnb62 := NB223_231.out
                  have hnc62 := NB231_223.out
                  have hcz63_0 : w45.cell? ⟨gb223, 0, none⟩ = some (.slice Ao8 t216.length co8) := (blk_cell BK223.out 0).trans rfl
                  have hcz63_1 : w45.cell? ⟨gb223, 1, none⟩ = some (.slice Ao10 t219.length co10) := (blk_cell BK223.out 1).trans rfl
                  have hfz63_0 := blk_frozen BK223.out 0
                  have hfz63_1 := blk_frozen BK223.out 1
                  go_wp2_with (first | ((with_reducible refine gate_callee (f := 18) rfl ?_); refine goesL_ (some 51) rfl rfl Try.func18 (by kernel_rfl) rfl #[.agg #[.slice Ao46 t237.length co46, .slice Ao50 t240.length co50], .agg #[.slice Ao8 t216.length co8, .slice Ao10 t219.length co10]] rfl (by (try simp only [List.map_toArray, List.map_cons, List.map_nil]); first | done | rfl | (simp only [List.length_drop, List.length_take]; rfl)) ?_; (with_reducible refine (laws_eqSpace.calls kj4 _ _ t237 _ _ t240 _ _ t216 _ _ t219 false _ ?side1 ?side2 ?side3 ?side4 ?side5 ?side6 ?side7 ?side8 A51.out).mono ?_); (case side1 => refine (Kd.R_reads' (e := 2) (base := w.heap.size) (ok := fun k_ => ((((some k_ ≠ (.slice Ao50 t240.length co50 : Value).ownBlock ∧ some k_ ≠ (.slice Ao8 t216.length co8 : Value).ownBlock) ∧ some k_ ≠ (.slice Ao10 t219.length co10 : Value).ownBlock) ∧ some k_ ≠ (.slice Ao13 t224.length co13 : Value).ownBlock) ∧ some k_ ≠ (.slice Ao16 t227.length co16 : Value).ownBlock)) (n := t237.length) (c := co46) ?_).2.2; exact (by (with_reducible repeat (first | apply Kd.R_alloc | apply Kd.R_drewN | apply Kd.R_drew)); exact (Kd.R_mono (Kd.R_far (p := ⟨gb244, 1, none⟩) (Kd.R_far (p := ⟨gb244, 0, none⟩) (Kd.R_types HO239.out BK244.out (by decide)) (fun _ hk => hk.2) (.slice Ao46 t237.length co46)) (fun _ hk => hk.2) (.slice Ao50 t240.length co50)) (fun _ h_ => h_.1)))); (case side2 => exact (Kd.R_reads' HO239.out).2.1); (case side3 => refine (Kd.R_reads' (e := 2) (base := w.heap.size) (ok := fun k_ => ((((some k_ ≠ (.slice Ao46 t237.length co46 : Value).ownBlock ∧ some k_ ≠ (.slice Ao8 t216.length co8 : Value).ownBlock) ∧ some k_ ≠ (.slice Ao10 t219.length co10 : Value).ownBlock) ∧ some k_ ≠ (.slice Ao13 t224.length co13 : Value).ownBlock) ∧ some k_ ≠ (.slice Ao16 t227.length co16 : Value).ownBlock)) (n := t240.length) (c := co50) ?_).2.2; exact (by (with_reducible repeat (first | apply Kd.R_alloc | apply Kd.R_drewN | apply Kd.R_drew)); exact (Kd.R_mono (Kd.R_far (p := ⟨gb244, 1, none⟩) (Kd.R_far (p := ⟨gb244, 0, none⟩) (Kd.R_types HO242.out BK244.out (by decide)) (fun _ hk => hk.2) (.slice Ao46 t237.length co46)) (fun _ hk => hk.2) (.slice Ao50 t240.length co50)) (fun _ h_ => h_.1)))); (case side4 => exact (Kd.R_reads' HO242.out).2.1); (case side5 => refine (Kd.R_reads' (e := 2) (base := w.heap.size) (ok := fun k_ => (((some k_ ≠ (.slice Ao10 t219.length co10 : Value).ownBlock ∧ (some k_ ≠ (.slice Ao13 t224.length co13 : Value).ownBlock ∧ some k_ ≠ (.slice Ao16 t227.length co16 : Value).ownBlock)) ∧ some k_ ≠ (.slice Ao46 t237.length co46 : Value).ownBlock) ∧ some k_ ≠ (.slice Ao50 t240.length co50 : Value).ownBlock)) (n := t216.length) (c := co8) ?_).2.2; exact (by (with_reducible repeat (first | apply Kd.R_alloc | apply Kd.R_drewN | apply Kd.R_drew)); exact (Kd.R_mono (Kd.R_far (p := ⟨gb244, 1, none⟩) (Kd.R_far (p := ⟨gb244, 0, none⟩) (Kd.R_types HO_224000.out BK244.out (by decide)) (fun _ hk => hk.2) (.slice Ao46 t237.length co46)) (fun _ hk => hk.2) (.slice Ao50 t240.length co50)) (fun _ h_ => h_.1)))); (case side6 => exact (Kd.R_reads' HO_224000.out).2.1); (case side7 => refine (Kd.R_reads' (e := 2) (base := w.heap.size) (ok := fun k_ => (((some k_ ≠ (.slice Ao8 t216.length co8 : Value).ownBlock ∧ (some k_ ≠ (.slice Ao13 t224.length co13 : Value).ownBlock ∧ some k_ ≠ (.slice Ao16 t227.length co16 : Value).ownBlock)) ∧ some k_ ≠ (.slice Ao46 t237.length co46 : Value).ownBlock) ∧ some k_ ≠ (.slice Ao50 t240.length co50 : Value).ownBlock)) (n := t219.length) (c := co10) ?_).2.2; exact (by (with_reducible repeat (first | apply Kd.R_alloc | apply Kd.R_drewN | apply Kd.R_drew)); exact (Kd.R_mono (Kd.R_far (p := ⟨gb244, 1, none⟩) (Kd.R_far (p := ⟨gb244, 0, none⟩) (Kd.R_types HO_224001.out BK244.out (by decide)) (fun _ hk => hk.2) (.slice Ao46 t237.length co46)) (fun _ hk => hk.2) (.slice Ao50 t240.length co50)) (fun _ h_ => h_.1)))); (case side8 => exact (Kd.R_reads' HO_224001.out).2.1); rintro e w64 ⟨rfl, hb⟩; refine ⟨_, rfl, ?_⟩; have n0_ := Aside0.mk (Kd.R_below (by (with_reducible repeat (first | apply Kd.R_alloc | apply Kd.R_drewN | apply Kd.R_drew)); exact (Kd.R_mono (Kd.R_far (p := ⟨gb244, 1, none⟩) (Kd.R_far (p := ⟨gb244, 0, none⟩) (Kd.R_types HO_224000.out BK244.out (by decide)) (fun _ hk => hk.2) (.slice Ao46 t237.length co46)) (fun _ hk => hk.2) (.slice Ao50 t240.length co50)) (fun _ h_ => h_.1))) hb); have n1_ := Aside0.mk (Kd.R_below (by (with_reducible repeat (first | apply Kd.R_alloc | apply Kd.R_drewN | apply Kd.R_drew)); exact (Kd.R_mono (Kd.R_far (p := ⟨gb244, 1, none⟩) (Kd.R_far (p := ⟨gb244, 0, none⟩) (Kd.R_types HO_224001.out BK244.out (by decide)) (fun _ hk => hk.2) (.slice Ao46 t237.length co46)) (fun _ hk => hk.2) (.slice Ao50 t240.length co50)) (fun _ h_ => h_.1))) hb); have n2_ := Aside0.mk (Kd.R_below (by (with_reducible repeat (first | apply Kd.R_alloc | apply Kd.R_drewN | apply Kd.R_drew)); exact (Kd.R_mono (Kd.R_far (p := ⟨gb244, 1, none⟩) (Kd.R_far (p := ⟨gb244, 0, none⟩) (Kd.R_types HO_232000.out BK244.out (by decide)) (fun _ hk => hk.2) (.slice Ao46 t237.length co46)) (fun _ hk => hk.2) (.slice Ao50 t240.length co50)) (fun _ h_ => h_.1))) hb); have n3_ := Aside0.mk (Kd.R_below (by (with_reducible repeat (first | apply Kd.R_alloc | apply Kd.R_drewN | apply Kd.R_drew)); exact (Kd.R_mono (Kd.R_far (p := ⟨gb244, 1, none⟩) (Kd.R_far (p := ⟨gb244, 0, none⟩) (Kd.R_types HO_232001.out BK244.out (by decide)) (fun _ hk => hk.2) (.slice Ao46 t237.length co46)) (fun _ hk => hk.2) (.slice Ao50 t240.length co50)) (fun _ h_ => h_.1))) hb); have n4_ := Aside0.mk (Kd.R_below (by (with_reducible repeat (first | apply Kd.R_alloc | apply Kd.R_drewN | apply Kd.R_drew)); exact (Kd.R_mono (Kd.R_far (p := ⟨gb244, 1, none⟩) (Kd.R_far (p := ⟨gb244, 0, none⟩) (Kd.R_types HO239.out BK244.out (by decide)) (fun _ hk => hk.2) (.slice Ao46 t237.length co46)) (fun _ hk => hk.2) (.slice Ao50 t240.length co50)) (fun _ h_ => h_.1))) hb); have n5_ := Aside0.mk (Kd.R_below (by (with_reducible repeat (first | apply Kd.R_alloc | apply Kd.R_drewN | apply Kd.R_drew)); exact (Kd.R_mono (Kd.R_far (p := ⟨gb244, 1, none⟩) (Kd.R_far (p := ⟨gb244, 0, none⟩) (Kd.R_types HO242.out BK244.out (by decide)) (fun _ hk => hk.2) (.slice Ao46 t237.length co46)) (fun _ hk => hk.2) (.slice Ao50 t240.length co50)) (fun _ h_ => h_.1))) hb); have n6_ := Aside0.mk (blk_below (g := gb223) (o := .cells #[.slice Ao8 t216.length co8, .slice Ao10 t219.length co10] 36 (0, 0)) (by (with_reducible repeat (first | refine blk_drewN ?_ _ | refine blk_drew ?_ | refine blk_alloc ?_ _)); refine blk_far ?_ NB223_244.out _; (with_reducible repeat (first | refine blk_drewN ?_ _ | refine blk_drew ?_ | refine blk_alloc ?_ _)); refine blk_far ?_ NB223_244.out _; (with_reducible repeat (first | refine blk_drewN ?_ _ | refine blk_drew ?_ | refine blk_alloc ?_ _)); exact BK223.out) hb); have n7_ := Aside0.mk (blk_below (g := gb231) (o := .cells #[.slice Ao13 t224.length co13, .slice Ao16 t227.length co16] 36 (0, 0)) (by (with_reducible repeat (first | refine blk_drewN ?_ _ | refine blk_drew ?_ | refine blk_alloc ?_ _)); refine blk_far ?_ NB231_244.out _; (with_reducible repeat (first | refine blk_drewN ?_ _ | refine blk_drew ?_ | refine blk_alloc ?_ _)); refine blk_far ?_ NB231_244.out _; (with_reducible repeat (first | refine blk_drewN ?_ _ | refine blk_drew ?_ | refine blk_alloc ?_ _)); exact BK231.out) hb); have n8_ := Aside0.mk (blk_below (g := gb244) (o := .cells #[.slice Ao46 t237.length co46, .slice Ao50 t240.length co50] 36 (0, 0)) (by (with_reducible repeat (first | refine blk_drewN ?_ _ | refine blk_drew ?_ | refine blk_alloc ?_ _)); refine blk_put (cs := #[.slice Ao46 t237.length co46, .slice none 0 0]) ?_ 1 _ rfl; (with_reducible repeat (first | refine blk_drewN ?_ _ | refine blk_drew ?_ | refine blk_alloc ?_ _)); refine blk_put (cs := #[.slice none 0 0, .slice none 0 0]) ?_ 0 _ rfl; (with_reducible repeat (first | refine blk_drewN ?_ _ | refine blk_drew ?_ | refine blk_alloc ?_ _)); exact BK244.out) hb); have n9_ := Aside0.mk (below_step (by repeat (first | (with_reducible first | exact HB.out | apply below_alloc | apply pw_below_drewN | apply below_drew1 | refine below_set ?_ GE223.out | refine below_set ?_ GE231.out | refine below_set ?_ GE244.out) | exact HB.out)) hb); clear HO_224000; clear HO_224001; clear HO_232000; clear HO_232001; clear HO239; clear HO242; clear BK223; clear BK231; clear BK244; clear HB; have HO_224000 := n0_; have HO_224001 := n1_; have HO_232000 := n2_; have HO_232001 := n3_; have HO239 := n4_; have HO242 := n5_; have BK223 := n6_; have BK231 := n7_; have BK244 := n8_; have HB := n9_; clear n0_ n1_ n2_ n3_ n4_ n5_ n6_ n7_ n8_ n9_; (try clear hb); (try clear hb2); (try clear hk); (try clear hi)))
                  go_meet
                  case rel => exact ⟨_, (true), (by first | rfl | (simp; done) | (simp [*]; done)), H', ⟨by have := HJ4.out; first | omega | exact Nat.le_refl _⟩, ⟨by (with_reducible repeat (first | apply Kd.R_alloc | apply Kd.R_drewN | apply Kd.R_drew)); exact Kd.R_mono HO_224000.out (fun _ hk => ⟨hk.1.1.1, ⟨hk.1.1.2.1, ⟨hk.1.1.2.2, ⟨hk.1.2, hk.2⟩⟩⟩⟩)⟩, ⟨by (with_reducible repeat (first | apply Kd.R_alloc | apply Kd.R_drewN | apply Kd.R_drew)); exact Kd.R_mono HO_224001.out (fun _ hk => ⟨hk.1.1.1, ⟨hk.1.1.2.1, ⟨hk.1.1.2.2, ⟨hk.1.2, hk.2⟩⟩⟩⟩)⟩, ⟨by (with_reducible repeat (first | apply Kd.R_alloc | apply Kd.R_drewN | apply Kd.R_drew)); exact Kd.R_mono HO_232000.out (fun _ hk => ⟨hk.1.1.1, ⟨hk.1.1.2.1, ⟨hk.1.1.2.2, ⟨hk.1.2, hk.2⟩⟩⟩⟩)⟩, ⟨by (with_reducible repeat (first | apply Kd.R_alloc | apply Kd.R_drewN | apply Kd.R_drew)); exact Kd.R_mono HO_232001.out (fun _ hk => ⟨hk.1.1.1, ⟨hk.1.1.2.1, ⟨hk.1.1.2.2, ⟨hk.1.2, hk.2⟩⟩⟩⟩)⟩, ⟨by (with_reducible repeat (first | apply Kd.R_alloc | apply Kd.R_drewN | apply Kd.R_drew)); exact Kd.R_mono HO239.out (fun _ hk => ⟨hk.1.1.1.2, ⟨hk.1.1.2, ⟨hk.1.2, ⟨hk.2, hk.1.1.1.1⟩⟩⟩⟩)⟩, ⟨by (with_reducible repeat (first | apply Kd.R_alloc | apply Kd.R_drewN | apply Kd.R_drew)); exact Kd.R_mono HO242.out (fun _ hk => ⟨hk.1.1.1.2, ⟨hk.1.1.2, ⟨hk.1.2, ⟨hk.2, hk.1.1.1.1⟩⟩⟩⟩)⟩, ⟨by (with_reducible repeat (first | refine blk_drewN ?_ _ | refine blk_drew ?_ | refine blk_alloc ?_ _)); exact BK223.out⟩, ⟨by (with_reducible repeat (first | refine blk_drewN ?_ _ | refine blk_drew ?_ | refine blk_alloc ?_ _)); exact BK231.out⟩, ⟨by (with_reducible repeat (first | refine blk_drewN ?_ _ | refine blk_drew ?_ | refine blk_alloc ?_ _)); exact BK244.out⟩, ⟨by repeat (first | (with_reducible first | exact HB.out | apply below_alloc | apply pw_below_drewN | apply below_drew1 | refine below_set ?_ GE223.out | refine below_set ?_ GE231.out | refine below_set ?_ GE244.out) | exact HB.out)⟩⟩
              case rest =>
                clear HC38
                try clear c1
                try clear c2
                try clear c2b0
                try clear c2b1
                try clear p2
                try clear c3
                try clear c4
                try clear c5
                try clear c6
                try clear c14
                try clear c16
                try clear c17
                try clear c18
                try clear c19
                try clear c20
                try clear c23
                try clear c27
                try clear c30
                try clear c30b0
                try clear c31
                try clear c36
                try clear c36b0
                try clear c36b1
                try clear c39
                try clear c47
                try clear c48
                try clear c52
                try clear c53
                try clear c54
                try clear c56
                try clear c59
                try clear c60
                try clear c62
                try clear hcz15_0
                try clear hcz15_1
                try clear hcz20_0
                try clear hcz20_1
                try clear hcz21_0
                try clear hcz21_1
                try clear hcz24_0
                try clear hcz24_1
                try clear hcz25_0
                try clear hcz25_1
                try clear hcz32_0
                try clear hcz32_1
                try clear hcz34_0
                try clear hcz34_1
                try clear hcz40_0
                try clear hcz40_1
                try clear hcz42_0
                try clear hcz42_1
                try clear hcz49_0
                try clear hcz49_1
                try clear hcz55_0
                try clear hcz55_1
                try clear hcz57_0
                try clear hcz57_1
                try clear hcz61_0
                try clear hcz61_1
                try clear hcz63_0
                try clear hcz63_1
                try clear hcz9_0
                try clear hcz9_1
                try clear hfz15_0
                try clear hfz15_1
                try clear hfz20_0
                try clear hfz20_1
                try clear hfz21_0
                try clear hfz21_1
                try clear hfz24_0
                try clear hfz24_1
                try clear hfz25_0
                try clear hfz25_1
                try clear hfz32_0
                try clear hfz32_1
                try clear hfz34_0
                try clear hfz34_1
                try clear hfz40_0
                try clear hfz40_1
                try clear hfz42_0
                try clear hfz42_1
                try clear hfz49_0
                try clear hfz49_1
                try clear hfz55_0
                try clear hfz55_1
                try clear hfz57_0
                try clear hfz57_1
                try clear hfz61_0
                try clear hfz61_1
                try clear hfz63_0
                try clear hfz63_1
                try clear hfz9_0
                try clear hfz9_1
                try clear p2
                obtain ⟨kq, x57_37, rfl, HA, HJ37, HO_224000, HO_224001, HO_232000, HO_232001, HO_245000, HO_245001, BK223, BK231, BK244, HB⟩ := hcut
                have hl232000_37 := (Kd.R_reads' HO_232000.out).1
                rw [hl232000_37] at HO_232000
                (try simp only [hl232000_37])
                (try simp only [hl232000_37] at BK223)
                (try simp only [hl232000_37] at BK231)
                (try simp only [hl232000_37] at BK244)
                (try simp only [hl232000_37] at HO_224000)
                (try simp only [hl232000_37] at HO_224001)
                (try simp only [hl232000_37] at HO_232001)
                (try simp only [hl232000_37] at HO_245000)
                (try simp only [hl232000_37] at HO_245001)
                have hl232001_37 := (Kd.R_reads' HO_232001.out).1
                rw [hl232001_37] at HO_232001
                (try simp only [hl232001_37])
                (try simp only [hl232001_37] at BK223)
                (try simp only [hl232001_37] at BK231)
                (try simp only [hl232001_37] at BK244)
                (try simp only [hl232001_37] at HO_224000)
                (try simp only [hl232001_37] at HO_224001)
                (try simp only [hl232001_37] at HO_232000)
                (try simp only [hl232001_37] at HO_245000)
                (try simp only [hl232001_37] at HO_245001)
                cases kq with
                | zero => exact absurd HA.out (by simp [laws_FnExactDecodeSpace.j1])
                | succ kj37 =>
                  have H := HA.out
                  clear HA
                  simp only [laws_FnExactDecodeSpace.j1] at H
                  by_cases c65 : x57_37 = true
                  · subst c65
                    have H1 : (some false) = some r := by rw [if_pos rfl] at H; exact H
                    clear H
                    have H := H1
                    clear H1
                    obtain rfl := Option.some.inj H
                    go_wp2
                    go_ret
                    exact ⟨by first | rfl | (simp [errW_none, errW_some] <;> rfl) | (simp [*, errW_none, errW_some] <;> rfl), by repeat (first | (with_reducible first | exact HB.out | apply below_alloc | apply pw_below_drewN | apply below_drew1 | refine below_set ?_ GE223.out | refine below_set ?_ GE231.out | refine below_set ?_ GE244.out) | exact HB.out)⟩
                  · replace c65 := Bool.eq_false_iff.mpr c65
                    subst c65
                    have H1 : ((laws_heldSpace.f kj37 t234 t235 1).bind fun t246 => (if t246 < 0 then (some false) else (if t246 = t233 then (some true) else (some false)))) = some r := by rw [if_neg (show ¬ (false = true) by decide)] at H; exact H
                    clear H
                    have H := H1
                    clear H1
                    replace H := Option.bind_eq_some_iff.mp H
                    obtain ⟨t246, A660, H⟩ := H
                    replace H : (if t246 < 0 then (some false) else (if t246 = t233 then (some true) else (some false))) = some r := H
                    have A66 := Aside0.mk A660
                    clear A660
                    by_cases c67 : t246 < 0
                    · rw [if_pos c67] at H
                      have c67b0 : decide (t246 < 0) = true := decide_eq_true c67
                      clear c67
                      obtain rfl := Option.some.inj H
                      have hnb68 := NB231_223.out
                      have hnc68 := NB223_231.out
                      have hnb69 := NB231_244.out
                      have hnc69 := NB244_231.out
                      have hcz70_0 : wc.cell? ⟨gb231, 0, none⟩ = some (.slice Ao13 t234.length co13) := (blk_cell BK231.out 0).trans rfl
                      have hcz70_1 : wc.cell? ⟨gb231, 1, none⟩ = some (.slice Ao16 t235.length co16) := (blk_cell BK231.out 1).trans rfl
                      have hfz70_0 := blk_frozen BK231.out 0
                      have hfz70_1 := blk_frozen BK231.out 1
                      go_wp2_with (first | ((with_reducible refine gate_callee (f := 20) rfl ?_); refine goesL_ (some 60) rfl rfl Try.func20 (by kernel_rfl) rfl #[.agg #[.slice Ao13 t234.length co13, .slice Ao16 t235.length co16], .int .i64 1] rfl (by (try simp only [List.map_toArray, List.map_cons, List.map_nil]); first | done | rfl | (simp only [List.length_drop, List.length_take]; rfl)) ?_; (with_reducible refine (laws_heldSpace.calls kj37 _ _ t234 _ _ t235 1 t246 _ ?side1 ?side2 ?side3 ?side4 A66.out).mono ?_); (case side1 => repeat (first | exact (Kd.R_reads' HO_232000.out).2.2 | (with_reducible refine Kd.C_alloc ?_ _) | (with_reducible refine Kd.C_drewN ?_ _) | (with_reducible refine Kd.C_drew ?_))); (case side2 => exact (Kd.R_reads' HO_232000.out).2.1); (case side3 => repeat (first | exact (Kd.R_reads' HO_232001.out).2.2 | (with_reducible refine Kd.C_alloc ?_ _) | (with_reducible refine Kd.C_drewN ?_ _) | (with_reducible refine Kd.C_drew ?_))); (case side4 => exact (Kd.R_reads' HO_232001.out).2.1); rintro e w71 ⟨rfl, hb⟩; refine ⟨_, rfl, ?_⟩; have n0_ := Aside0.mk (Kd.R_below (by (with_reducible repeat (first | apply Kd.R_alloc | apply Kd.R_drewN | apply Kd.R_drew)); exact HO_224000.out) hb); have n1_ := Aside0.mk (Kd.R_below (by (with_reducible repeat (first | apply Kd.R_alloc | apply Kd.R_drewN | apply Kd.R_drew)); exact HO_224001.out) hb); have n2_ := Aside0.mk (Kd.R_below (by (with_reducible repeat (first | apply Kd.R_alloc | apply Kd.R_drewN | apply Kd.R_drew)); exact HO_232000.out) hb); have n3_ := Aside0.mk (Kd.R_below (by (with_reducible repeat (first | apply Kd.R_alloc | apply Kd.R_drewN | apply Kd.R_drew)); exact HO_232001.out) hb); have n4_ := Aside0.mk (Kd.R_below (by (with_reducible repeat (first | apply Kd.R_alloc | apply Kd.R_drewN | apply Kd.R_drew)); exact HO_245000.out) hb); have n5_ := Aside0.mk (Kd.R_below (by (with_reducible repeat (first | apply Kd.R_alloc | apply Kd.R_drewN | apply Kd.R_drew)); exact HO_245001.out) hb); have n6_ := Aside0.mk (blk_below (g := gb223) (o := .cells #[.slice Ao8 t216.length co8, .slice Ao10 t219.length co10] 36 (0, 0)) (by (with_reducible repeat (first | refine blk_drewN ?_ _ | refine blk_drew ?_ | refine blk_alloc ?_ _)); exact BK223.out) hb); have n7_ := Aside0.mk (blk_below (g := gb231) (o := .cells #[.slice Ao13 t234.length co13, .slice Ao16 t235.length co16] 36 (0, 0)) (by (with_reducible repeat (first | refine blk_drewN ?_ _ | refine blk_drew ?_ | refine blk_alloc ?_ _)); exact BK231.out) hb); have n8_ := Aside0.mk (blk_below (g := gb244) (o := .cells #[.slice Ao46 t237.length co46, .slice Ao50 t240.length co50] 36 (0, 0)) (by (with_reducible repeat (first | refine blk_drewN ?_ _ | refine blk_drew ?_ | refine blk_alloc ?_ _)); exact BK244.out) hb); have n9_ := Aside0.mk (below_step (by repeat (first | (with_reducible first | exact HB.out | apply below_alloc | apply pw_below_drewN | apply below_drew1 | refine below_set ?_ GE223.out | refine below_set ?_ GE231.out | refine below_set ?_ GE244.out) | exact HB.out)) hb); clear HO_224000; clear HO_224001; clear HO_232000; clear HO_232001; clear HO_245000; clear HO_245001; clear BK223; clear BK231; clear BK244; clear HB; have HO_224000 := n0_; have HO_224001 := n1_; have HO_232000 := n2_; have HO_232001 := n3_; have HO_245000 := n4_; have HO_245001 := n5_; have BK223 := n6_; have BK231 := n7_; have BK244 := n8_; have HB := n9_; clear n0_ n1_ n2_ n3_ n4_ n5_ n6_ n7_ n8_ n9_; (try clear hb); (try clear hb2); (try clear hk); (try clear hi)))
                      go_ret
                      exact ⟨by first | rfl | (simp [errW_none, errW_some] <;> rfl) | (simp [*, errW_none, errW_some] <;> rfl), by repeat (first | (with_reducible first | exact HB.out | apply below_alloc | apply pw_below_drewN | apply below_drew1 | refine below_set ?_ GE223.out | refine below_set ?_ GE231.out | refine below_set ?_ GE244.out) | exact HB.out)⟩
                    · rw [if_neg c67] at H
                      have c67b0 : decide (t246 < 0) = false := decide_eq_false c67
                      clear c67
                      by_cases c72 : t246 = t233
                      · rw [if_pos c72] at H
                        have c72b0 : (t246 == t233) = true := beq_iff_eq.mpr c72
                        have c72b1 : (t246 != t233) = false := bne_eq_false_iff_eq.mpr c72
                        clear c72
                        obtain rfl := Option.some.inj H
                        have hnb73 := NB231_223.out
                        have hnc73 := NB223_231.out
                        have hnb74 := NB231_244.out
                        have hnc74 := NB244_231.out
                        have hcz75_0 : wc.cell? ⟨gb231, 0, none⟩ = some (.slice Ao13 t234.length co13) := (blk_cell BK231.out 0).trans rfl
                        have hcz75_1 : wc.cell? ⟨gb231, 1, none⟩ = some (.slice Ao16 t235.length co16) := (blk_cell BK231.out 1).trans rfl
                        have hfz75_0 := blk_frozen BK231.out 0
                        have hfz75_1 := blk_frozen BK231.out 1
                        go_wp2_with (first | ((with_reducible refine gate_callee (f := 20) rfl ?_); refine goesL_ (some 60) rfl rfl Try.func20 (by kernel_rfl) rfl #[.agg #[.slice Ao13 t234.length co13, .slice Ao16 t235.length co16], .int .i64 1] rfl (by (try simp only [List.map_toArray, List.map_cons, List.map_nil]); first | done | rfl | (simp only [List.length_drop, List.length_take]; rfl)) ?_; (with_reducible refine (laws_heldSpace.calls kj37 _ _ t234 _ _ t235 1 t246 _ ?side1 ?side2 ?side3 ?side4 A66.out).mono ?_); (case side1 => repeat (first | exact (Kd.R_reads' HO_232000.out).2.2 | (with_reducible refine Kd.C_alloc ?_ _) | (with_reducible refine Kd.C_drewN ?_ _) | (with_reducible refine Kd.C_drew ?_))); (case side2 => exact (Kd.R_reads' HO_232000.out).2.1); (case side3 => repeat (first | exact (Kd.R_reads' HO_232001.out).2.2 | (with_reducible refine Kd.C_alloc ?_ _) | (with_reducible refine Kd.C_drewN ?_ _) | (with_reducible refine Kd.C_drew ?_))); (case side4 => exact (Kd.R_reads' HO_232001.out).2.1); rintro e w76 ⟨rfl, hb⟩; refine ⟨_, rfl, ?_⟩; have n0_ := Aside0.mk (Kd.R_below (by (with_reducible repeat (first | apply Kd.R_alloc | apply Kd.R_drewN | apply Kd.R_drew)); exact HO_224000.out) hb); have n1_ := Aside0.mk (Kd.R_below (by (with_reducible repeat (first | apply Kd.R_alloc | apply Kd.R_drewN | apply Kd.R_drew)); exact HO_224001.out) hb); have n2_ := Aside0.mk (Kd.R_below (by (with_reducible repeat (first | apply Kd.R_alloc | apply Kd.R_drewN | apply Kd.R_drew)); exact HO_232000.out) hb); have n3_ := Aside0.mk (Kd.R_below (by (with_reducible repeat (first | apply Kd.R_alloc | apply Kd.R_drewN | apply Kd.R_drew)); exact HO_232001.out) hb); have n4_ := Aside0.mk (Kd.R_below (by (with_reducible repeat (first | apply Kd.R_alloc | apply Kd.R_drewN | apply Kd.R_drew)); exact HO_245000.out) hb); have n5_ := Aside0.mk (Kd.R_below (by (with_reducible repeat (first | apply Kd.R_alloc | apply Kd.R_drewN | apply Kd.R_drew)); exact HO_245001.out) hb); have n6_ := Aside0.mk (blk_below (g := gb223) (o := .cells #[.slice Ao8 t216.length co8, .slice Ao10 t219.length co10] 36 (0, 0)) (by (with_reducible repeat (first | refine blk_drewN ?_ _ | refine blk_drew ?_ | refine blk_alloc ?_ _)); exact BK223.out) hb); have n7_ := Aside0.mk (blk_below (g := gb231) (o := .cells #[.slice Ao13 t234.length co13, .slice Ao16 t235.length co16] 36 (0, 0)) (by (with_reducible repeat (first | refine blk_drewN ?_ _ | refine blk_drew ?_ | refine blk_alloc ?_ _)); exact BK231.out) hb); have n8_ := Aside0.mk (blk_below (g := gb244) (o := .cells #[.slice Ao46 t237.length co46, .slice Ao50 t240.length co50] 36 (0, 0)) (by (with_reducible repeat (first | refine blk_drewN ?_ _ | refine blk_drew ?_ | refine blk_alloc ?_ _)); exact BK244.out) hb); have n9_ := Aside0.mk (below_step (by repeat (first | (with_reducible first | exact HB.out | apply below_alloc | apply pw_below_drewN | apply below_drew1 | refine below_set ?_ GE223.out | refine below_set ?_ GE231.out | refine below_set ?_ GE244.out) | exact HB.out)) hb); clear HO_224000; clear HO_224001; clear HO_232000; clear HO_232001; clear HO_245000; clear HO_245001; clear BK223; clear BK231; clear BK244; clear HB; have HO_224000 := n0_; have HO_224001 := n1_; have HO_232000 := n2_; have HO_232001 := n3_; have HO_245000 := n4_; have HO_245001 := n5_; have BK223 := n6_; have BK231 := n7_; have BK244 := n8_; have HB := n9_; clear n0_ n1_ n2_ n3_ n4_ n5_ n6_ n7_ n8_ n9_; (try clear hb); (try clear hb2); (try clear hk); (try clear hi)))
                        go_ret
                        exact ⟨by first | rfl | (simp [errW_none, errW_some] <;> rfl) | (simp [*, errW_none, errW_some] <;> rfl), by repeat (first | (with_reducible first | exact HB.out | apply below_alloc | apply pw_below_drewN | apply below_drew1 | refine below_set ?_ GE223.out | refine below_set ?_ GE231.out | refine below_set ?_ GE244.out) | exact HB.out)⟩
                      · rw [if_neg c72] at H
                        have c72b0 : (t246 == t233) = false := beq_eq_false_iff_ne.mpr c72
                        have c72b1 : (t246 != t233) = true := bne_iff_ne.mpr c72
                        obtain rfl := Option.some.inj H
                        have hnb77 := NB231_223.out
                        have hnc77 := NB223_231.out
                        have hnb78 := NB231_244.out
                        have hnc78 := NB244_231.out
                        have hcz79_0 : wc.cell? ⟨gb231, 0, none⟩ = some (.slice Ao13 t234.length co13) := (blk_cell BK231.out 0).trans rfl
                        have hcz79_1 : wc.cell? ⟨gb231, 1, none⟩ = some (.slice Ao16 t235.length co16) := (blk_cell BK231.out 1).trans rfl
                        have hfz79_0 := blk_frozen BK231.out 0
                        have hfz79_1 := blk_frozen BK231.out 1
                        go_wp2_with (first | ((with_reducible refine gate_callee (f := 20) rfl ?_); refine goesL_ (some 60) rfl rfl Try.func20 (by kernel_rfl) rfl #[.agg #[.slice Ao13 t234.length co13, .slice Ao16 t235.length co16], .int .i64 1] rfl (by (try simp only [List.map_toArray, List.map_cons, List.map_nil]); first | done | rfl | (simp only [List.length_drop, List.length_take]; rfl)) ?_; (with_reducible refine (laws_heldSpace.calls kj37 _ _ t234 _ _ t235 1 t246 _ ?side1 ?side2 ?side3 ?side4 A66.out).mono ?_); (case side1 => repeat (first | exact (Kd.R_reads' HO_232000.out).2.2 | (with_reducible refine Kd.C_alloc ?_ _) | (with_reducible refine Kd.C_drewN ?_ _) | (with_reducible refine Kd.C_drew ?_))); (case side2 => exact (Kd.R_reads' HO_232000.out).2.1); (case side3 => repeat (first | exact (Kd.R_reads' HO_232001.out).2.2 | (with_reducible refine Kd.C_alloc ?_ _) | (with_reducible refine Kd.C_drewN ?_ _) | (with_reducible refine Kd.C_drew ?_))); (case side4 => exact (Kd.R_reads' HO_232001.out).2.1); rintro e w80 ⟨rfl, hb⟩; refine ⟨_, rfl, ?_⟩; have n0_ := Aside0.mk (Kd.R_below (by (with_reducible repeat (first | apply Kd.R_alloc | apply Kd.R_drewN | apply Kd.R_drew)); exact HO_224000.out) hb); have n1_ := Aside0.mk (Kd.R_below (by (with_reducible repeat (first | apply Kd.R_alloc | apply Kd.R_drewN | apply Kd.R_drew)); exact HO_224001.out) hb); have n2_ := Aside0.mk (Kd.R_below (by (with_reducible repeat (first | apply Kd.R_alloc | apply Kd.R_drewN | apply Kd.R_drew)); exact HO_232000.out) hb); have n3_ := Aside0.mk (Kd.R_below (by (with_reducible repeat (first | apply Kd.R_alloc | apply Kd.R_drewN | apply Kd.R_drew)); exact HO_232001.out) hb); have n4_ := Aside0.mk (Kd.R_below (by (with_reducible repeat (first | apply Kd.R_alloc | apply Kd.R_drewN | apply Kd.R_drew)); exact HO_245000.out) hb); have n5_ := Aside0.mk (Kd.R_below (by (with_reducible repeat (first | apply Kd.R_alloc | apply Kd.R_drewN | apply Kd.R_drew)); exact HO_245001.out) hb); have n6_ := Aside0.mk (blk_below (g := gb223) (o := .cells #[.slice Ao8 t216.length co8, .slice Ao10 t219.length co10] 36 (0, 0)) (by (with_reducible repeat (first | refine blk_drewN ?_ _ | refine blk_drew ?_ | refine blk_alloc ?_ _)); exact BK223.out) hb); have n7_ := Aside0.mk (blk_below (g := gb231) (o := .cells #[.slice Ao13 t234.length co13, .slice Ao16 t235.length co16] 36 (0, 0)) (by (with_reducible repeat (first | refine blk_drewN ?_ _ | refine blk_drew ?_ | refine blk_alloc ?_ _)); exact BK231.out) hb); have n8_ := Aside0.mk (blk_below (g := gb244) (o := .cells #[.slice Ao46 t237.length co46, .slice Ao50 t240.length co50] 36 (0, 0)) (by (with_reducible repeat (first | refine blk_drewN ?_ _ | refine blk_drew ?_ | refine blk_alloc ?_ _)); exact BK244.out) hb); have n9_ := Aside0.mk (below_step (by repeat (first | (with_reducible first | exact HB.out | apply below_alloc | apply pw_below_drewN | apply below_drew1 | refine below_set ?_ GE223.out | refine below_set ?_ GE231.out | refine below_set ?_ GE244.out) | exact HB.out)) hb); clear HO_224000; clear HO_224001; clear HO_232000; clear HO_232001; clear HO_245000; clear HO_245001; clear BK223; clear BK231; clear BK244; clear HB; have HO_224000 := n0_; have HO_224001 := n1_; have HO_232000 := n2_; have HO_232001 := n3_; have HO_245000 := n4_; have HO_245001 := n5_; have BK223 := n6_; have BK231 := n7_; have BK244 := n8_; have HB := n9_; clear n0_ n1_ n2_ n3_ n4_ n5_ n6_ n7_ n8_ n9_; (try clear hb); (try clear hb2); (try clear hk); (try clear hi)))
                        go_ret
                        exact ⟨by first | rfl | (simp [errW_none, errW_some] <;> rfl) | (simp [*, errW_none, errW_some] <;> rfl), by repeat (first | (with_reducible first | exact HB.out | apply below_alloc | apply pw_below_drewN | apply below_drew1 | refine below_set ?_ GE223.out | refine below_set ?_ GE231.out | refine below_set ?_ GE244.out) | exact HB.out)⟩
            · rw [if_neg c36] at H
              have c36b0 : (t236 == t233) = false := beq_eq_false_iff_ne.mpr c36
              have c36b1 : (t236 != t233) = true := bne_iff_ne.mpr c36
              obtain rfl := Option.some.inj H
              have hnb81 := NB231_223.out
              have hnc81 := NB223_231.out
              have hcz82_0 : wc.cell? ⟨gb231, 0, none⟩ = some (.slice Ao13 t224.length co13) := (blk_cell BK231.out 0).trans rfl
              have hcz82_1 : wc.cell? ⟨gb231, 1, none⟩ = some (.slice Ao16 t227.length co16) := (blk_cell BK231.out 1).trans rfl
              have hfz82_0 := blk_frozen BK231.out 0
              have hfz82_1 := blk_frozen BK231.out 1
              go_wp2_with (first | ((with_reducible refine gate_callee (f := 19) rfl ?_); refine goesL_ (some 35) rfl rfl Try.func19 (by kernel_rfl) rfl #[.agg #[.slice Ao13 t224.length co13, .slice Ao16 t227.length co16], .int .i64 1] rfl (by (try simp only [List.map_toArray, List.map_cons, List.map_nil]); first | done | rfl | (simp only [List.length_drop, List.length_take]; rfl)) ?_; (with_reducible refine (laws_markSpace.calls kj4 (fun k_ => some k_ = (.slice Ao13 t224.length co13 : Value).ownBlock) (.slice Ao13 t224.length co13) t224 (fun k_ => some k_ = (.slice Ao16 t227.length co16 : Value).ownBlock) (.slice Ao16 t227.length co16) t227 1 t233 t234 t235 w _ ?side1 ?side2 ?side3 ?side4 ?side5 A28.out).mono ?_); (case side1 => repeat (first | (with_reducible first | exact HB.out | apply below_alloc | apply pw_below_drewN | apply below_drew1 | refine below_set ?_ GE223.out | refine below_set ?_ GE231.out) | exact HB.out)); (case side2 => exact Kd.R_tight rfl HO_232000.out); (case side3 => exact fun k_ e_ => (HO_232000.out.1 k_ e_.symm).2.2); (case side4 => exact Kd.R_tight rfl HO_232001.out); (case side5 => exact fun k_ e_ => (HO_232001.out.1 k_ e_.symm).2.2); rintro e w83 ⟨rfl, hy0, hy1, hb, hkp⟩; refine ⟨_, rfl, ?_⟩; have n0_ := Aside0.mk (Kd.R_mono (ok' := fun k_ => some k_ ≠ (.slice Ao10 t219.length co10 : Value).ownBlock ∧ some k_ ≠ (.slice Ao13 t224.length co13 : Value).ownBlock ∧ some k_ ≠ (.slice Ao16 t227.length co16 : Value).ownBlock) (Kd.R_keptB (HO_224000.out) hkp (fun k_ hk_ hs_ => Or.elim hs_ (fun e_ => (hk_.2.1) e_) (fun e_ => (hk_.2.2) e_))) (fun k_ hk_ => ⟨hk_.1.1, hk_.1.2.1, hk_.1.2.2⟩)); have n1_ := Aside0.mk (Kd.R_mono (ok' := fun k_ => some k_ ≠ (.slice Ao8 t216.length co8 : Value).ownBlock ∧ some k_ ≠ (.slice Ao13 t224.length co13 : Value).ownBlock ∧ some k_ ≠ (.slice Ao16 t227.length co16 : Value).ownBlock) (Kd.R_keptB (HO_224001.out) hkp (fun k_ hk_ hs_ => Or.elim hs_ (fun e_ => (hk_.2.1) e_) (fun e_ => (hk_.2.2) e_))) (fun k_ hk_ => ⟨hk_.1.1, hk_.1.2.1, hk_.1.2.2⟩)); have n2_ := Aside0.mk (Kd.R_reok rfl hy0 (fun k_ e_ => HO_232000.out.1 k_ e_)); have n3_ := Aside0.mk (Kd.R_reok rfl hy1 (fun k_ e_ => HO_232001.out.1 k_ e_)); have n4_ := Aside0.mk (blk_kept (by (with_reducible repeat (first | refine blk_drewN ?_ _ | refine blk_drew ?_ | refine blk_alloc ?_ _)); exact BK223.out) hkp (fun hs_ => Or.elim hs_ (fun e_ => (fun e_ => (Kd.R_ne HO_232000.out BK223.out (by decide)) e_) e_) (fun e_ => (fun e_ => (Kd.R_ne HO_232001.out BK223.out (by decide)) e_) e_))); have n5_ := Aside0.mk (blk_kept (by (with_reducible repeat (first | refine blk_drewN ?_ _ | refine blk_drew ?_ | refine blk_alloc ?_ _)); exact BK231.out) hkp (fun hs_ => Or.elim hs_ (fun e_ => (fun e_ => (Kd.R_ne HO_232000.out BK231.out (by decide)) e_) e_) (fun e_ => (fun e_ => (Kd.R_ne HO_232001.out BK231.out (by decide)) e_) e_))); have n6_ := Aside0.mk (hb); clear HO_224000; clear HO_224001; clear HO_232000; clear HO_232001; clear BK223; clear BK231; clear HB; have HO_224000 := n0_; have HO_224001 := n1_; have HO_232000 := n2_; have HO_232001 := n3_; have BK223 := n4_; have BK231 := n5_; have HB := n6_; clear n0_ n1_ n2_ n3_ n4_ n5_ n6_; (try clear hb); (try clear hkp); (try clear hy0); (try clear hy1); have hcz84_0 : w83.cell? ⟨gb231, 0, none⟩ = some (.slice Ao13 t224.length co13) := (blk_cell BK231.out 0).trans rfl; have hcz84_1 : w83.cell? ⟨gb231, 1, none⟩ = some (.slice Ao16 t227.length co16) := (blk_cell BK231.out 1).trans rfl; have hfz84_0 := blk_frozen BK231.out 0; have hfz84_1 := blk_frozen BK231.out 1) | ((with_reducible refine gate_callee (f := 20) rfl ?_); refine goesL_ (some 38) rfl rfl Try.func20 (by kernel_rfl) rfl #[.agg #[.slice Ao13 t234.length co13, .slice Ao16 t235.length co16], .int .i64 1] rfl (by (try simp only [List.map_toArray, List.map_cons, List.map_nil]); first | done | (rw [show t234.length = t224.length from (Kd.R_reads' HO_232000.out).1.symm, show t235.length = t227.length from (Kd.R_reads' HO_232001.out).1.symm] <;> rfl) | rfl | (simp only [List.length_drop, List.length_take]; rfl)) ?_; (with_reducible refine (laws_heldSpace.calls kj4 _ _ t234 _ _ t235 1 t236 _ ?side1 ?side2 ?side3 ?side4 A29.out).mono ?_); (case side1 => repeat (first | exact (Kd.R_reads' HO_232000.out).2.2 | (with_reducible refine Kd.C_alloc ?_ _) | (with_reducible refine Kd.C_drewN ?_ _) | (with_reducible refine Kd.C_drew ?_))); (case side2 => rw [show t234.length = t224.length from (Kd.R_reads' HO_232000.out).1.symm]; exact (Kd.R_reads' HO_232000.out).2.1); (case side3 => repeat (first | exact (Kd.R_reads' HO_232001.out).2.2 | (with_reducible refine Kd.C_alloc ?_ _) | (with_reducible refine Kd.C_drewN ?_ _) | (with_reducible refine Kd.C_drew ?_))); (case side4 => rw [show t235.length = t227.length from (Kd.R_reads' HO_232001.out).1.symm]; exact (Kd.R_reads' HO_232001.out).2.1); rintro e w85 ⟨rfl, hb⟩; refine ⟨_, rfl, ?_⟩; have n0_ := Aside0.mk (Kd.R_below (by (with_reducible repeat (first | apply Kd.R_alloc | apply Kd.R_drewN | apply Kd.R_drew)); exact HO_224000.out) hb); have n1_ := Aside0.mk (Kd.R_below (by (with_reducible repeat (first | apply Kd.R_alloc | apply Kd.R_drewN | apply Kd.R_drew)); exact HO_224001.out) hb); have n2_ := Aside0.mk (Kd.R_below (by (with_reducible repeat (first | apply Kd.R_alloc | apply Kd.R_drewN | apply Kd.R_drew)); exact HO_232000.out) hb); have n3_ := Aside0.mk (Kd.R_below (by (with_reducible repeat (first | apply Kd.R_alloc | apply Kd.R_drewN | apply Kd.R_drew)); exact HO_232001.out) hb); have n4_ := Aside0.mk (blk_below (g := gb223) (o := .cells #[.slice Ao8 t216.length co8, .slice Ao10 t219.length co10] 36 (0, 0)) (by (with_reducible repeat (first | refine blk_drewN ?_ _ | refine blk_drew ?_ | refine blk_alloc ?_ _)); exact BK223.out) hb); have n5_ := Aside0.mk (blk_below (g := gb231) (o := .cells #[.slice Ao13 t224.length co13, .slice Ao16 t227.length co16] 36 (0, 0)) (by (with_reducible repeat (first | refine blk_drewN ?_ _ | refine blk_drew ?_ | refine blk_alloc ?_ _)); exact BK231.out) hb); have n6_ := Aside0.mk (below_step (by repeat (first | (with_reducible first | exact HB.out | apply below_alloc | apply pw_below_drewN | apply below_drew1 | refine below_set ?_ GE223.out | refine below_set ?_ GE231.out) | exact HB.out)) hb); clear HO_224000; clear HO_224001; clear HO_232000; clear HO_232001; clear BK223; clear BK231; clear HB; have HO_224000 := n0_; have HO_224001 := n1_; have HO_232000 := n2_; have HO_232001 := n3_; have BK223 := n4_; have BK231 := n5_; have HB := n6_; clear n0_ n1_ n2_ n3_ n4_ n5_ n6_; (try clear hb); (try clear hb2); (try clear hk); (try clear hi)))
              go_ret
              exact ⟨by first | rfl | (simp [errW_none, errW_some] <;> rfl) | (simp [*, errW_none, errW_some] <;> rfl), by repeat (first | (with_reducible first | exact HB.out | apply below_alloc | apply pw_below_drewN | apply below_drew1 | refine below_set ?_ GE223.out | refine below_set ?_ GE231.out) | exact HB.out)⟩

/-- THE ONE PURE STATEMENT of laws_FnExactDecodeSpace: yours. -/
def laws_FnExactDecodeSpace.Pure : Prop := ∀ (a0 : ByteArray), a0.size ≤ 140737488351232 → ∃ k, laws_FnExactDecodeSpace.f k a0 = some true
theorem laws_FnExactDecodeSpace.walk (P : laws_FnExactDecodeSpace.Pure) (a0 : ByteArray) (w : World) (w0 : a0.size ≤ 140737488351232) :
    Calls Try.prog 5 #[.string a0] w fun e w' => e = .returned (.bool true) ∧ Below w.heap.size w w' := by
  obtain ⟨k, h⟩ := P a0 w0
  refine (laws_FnExactDecodeSpace.calls k a0 true w h).mono ?_
  rintro e w' ⟨rfl, hd⟩
  exact ⟨rfl, hd⟩

end Go.Proofs.Ytlcbbiiohhplfab.PFnExactDecodeSpace
