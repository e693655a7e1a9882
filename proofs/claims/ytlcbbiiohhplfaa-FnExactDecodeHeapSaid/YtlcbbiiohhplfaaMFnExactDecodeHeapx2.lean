/- Laid by a program of this session (mend.py) out of the text that print.sh wrote for this claim: renamed, and mended where it fell in Lean. -/
import Derived.Test.YtlcbbiiohhplfaaMFnExactDecodeHeapx0
import Derived.Test.YtlcbbiiohhplfaaMFnExactDecodeHeapx1
namespace Go.Proofs.Ytlcbbiiohhplfaa.PFnExactDecodeHeap
open Go.RowKit Go.Proofs.YtlcbbiiohhplfaaW.PrintWords Go.Proofs.YtlcbbiiohhplfaaW.PrintLast Go.Proofs.YtlcbbiiohhplfaaW.PrintMore
attribute [local go_sem] max2_int min2_int max_two min_two max_three min_three max_four min_four   -- for this text's walks alone
set_option linter.unusedVariables false
set_option linter.unusedSimpArgs false

/-! ### spec_l16Ok: function 67 -/
mutual
def spec_l16Ok.j0 : Nat → Int → Bool → List ByteArray → Option (Bool)
  | 0, _, _, _ => none
  | k + 1, x3, x22, x104000 => if x22 = true then (some false) else (spec_l16Ok.l0 k x3 0 x104000)
def spec_l16Ok.l0 : Nat → Int → Int → List ByteArray → Option (Bool)
  | 0, _, _, _ => none
  | k + 1, x3, x4, x104000 => if x4 < x3 then (if 0 ≤ x4 then (if x4 < (x104000.length : Int) then (if (rdOf ByteArray.empty x104000 x4).toList = ([] : List UInt8) then (spec_l16Ok.l0 k x3 (wrap64 (x4 + 1)) x104000) else ((spec_IsName.f k (rdOf ByteArray.empty x104000 x4)).bind fun t107 => (if t107 = true then (spec_l16Ok.l0 k x3 (wrap64 (x4 + 1)) x104000) else (some false)))) else (none)) else (none)) else (some true)
end
def spec_l16Ok.f (k : Nat) (l0_0 : List ByteArray) : Option (Bool) := if (l0_0.length : Int) > 30 then (spec_l16Ok.j0 k (l0_0.length : Int) true l0_0) else (if (l0_0.length : Int) > 0 then (if 0 ≤ (wrap64 ((l0_0.length : Int) - 1)) then (if (wrap64 ((l0_0.length : Int) - 1)) < (l0_0.length : Int) then (spec_l16Ok.j0 k (l0_0.length : Int) ((rdOf ByteArray.empty l0_0 (wrap64 ((l0_0.length : Int) - 1))).toList == ([] : List UInt8)) l0_0) else (none)) else (none)) else (spec_l16Ok.j0 k (l0_0.length : Int) false l0_0))
theorem spec_l16Ok.mono_l : ∀ k, (∀ y0 y1 y2, LeO (spec_l16Ok.j0 k y0 y1 y2) (spec_l16Ok.j0 (k + 1) y0 y1 y2)) ∧ (∀ y0 y1 y2, LeO (spec_l16Ok.l0 k y0 y1 y2) (spec_l16Ok.l0 (k + 1) y0 y1 y2))
  | 0 => ⟨fun _ _ _ r h => by simp [spec_l16Ok.j0] at h, fun _ _ _ r h => by simp [spec_l16Ok.l0] at h⟩
  | k + 1 => by
    obtain ⟨ih0, ih1⟩ := spec_l16Ok.mono_l k
    refine ⟨?_, ?_⟩
    · intro y0 y1 y2
      unfold spec_l16Ok.j0
      repeat' first
      | (with_reducible exact ih0 _ _ _)
      | (with_reducible exact ih1 _ _ _)
      | (with_reducible exact spec_IsName.mono _ _)
      | (with_reducible exact LeO.refl _)
      | (with_reducible exact LeO.none _)
      | (with_reducible refine LeO.ite ?_ ?_)
      | (with_reducible refine LeO.bind ?_ (fun _ => ?_))
      | exact ih0 _ _ _
      | exact ih1 _ _ _
      | exact spec_IsName.mono _ _
      | exact LeO.none _
      | refine LeO.ite ?_ ?_
      | refine LeO.bind ?_ (fun _ => ?_)
    · intro y0 y1 y2
      unfold spec_l16Ok.l0
      repeat' first
      | (with_reducible exact ih0 _ _ _)
      | (with_reducible exact ih1 _ _ _)
      | (with_reducible exact spec_IsName.mono _ _)
      | (with_reducible exact LeO.refl _)
      | (with_reducible exact LeO.none _)
      | (with_reducible refine LeO.ite ?_ ?_)
      | (with_reducible refine LeO.bind ?_ (fun _ => ?_))
      | exact ih0 _ _ _
      | exact ih1 _ _ _
      | exact spec_IsName.mono _ _
      | exact LeO.none _
      | refine LeO.ite ?_ ?_
      | refine LeO.bind ?_ (fun _ => ?_)
theorem spec_l16Ok.mono : ∀ a0 k, LeO (spec_l16Ok.f k a0) (spec_l16Ok.f (k + 1) a0) := by
  intro a0 k
  obtain ⟨ih0, ih1⟩ := spec_l16Ok.mono_l k
  unfold spec_l16Ok.f
  repeat' first
      | (with_reducible exact ih0 _ _ _)
      | (with_reducible exact ih1 _ _ _)
      | (with_reducible exact spec_IsName.mono _ _)
      | (with_reducible exact LeO.refl _)
      | (with_reducible exact LeO.none _)
      | (with_reducible refine LeO.ite ?_ ?_)
      | (with_reducible refine LeO.bind ?_ (fun _ => ?_))
      | exact ih0 _ _ _
      | exact ih1 _ _ _
      | exact spec_IsName.mono _ _
      | exact LeO.none _
      | refine LeO.ite ?_ ?_
      | refine LeO.bind ?_ (fun _ => ?_)
set_option maxHeartbeats 8000000 in
set_option maxRecDepth 100000 in
theorem spec_l16Ok.calls (k : Nat) (A0_0 : Option Addr) (c0_0 : Nat) (l0_0 : List ByteArray) (r : Bool) (w : World) (hr0_0 : Kd.C Kd.string w A0_0 l0_0.length l0_0) (hc0_0 : l0_0.length ≤ c0_0) (h : spec_l16Ok.f k l0_0 = some r) :
    Calls Try.prog 67 #[.agg #[.slice A0_0 l0_0.length c0_0]] w fun e w' => e = .returned (.bool r) ∧ Below w.heap.size w w' := by
  have hu43 := Try.underlying43
  have HR0_0 := Aside0.mk hr0_0
  have HC0_0 := Aside0.mk hc0_0
  clear hr0_0 hc0_0
  have HB := Aside0.mk (Below.refl w.heap.size w)
  have H : (if (l0_0.length : Int) > 30 then (spec_l16Ok.j0 k (l0_0.length : Int) true l0_0) else (if (l0_0.length : Int) > 0 then (if 0 ≤ (wrap64 ((l0_0.length : Int) - 1)) then (if (wrap64 ((l0_0.length : Int) - 1)) < (l0_0.length : Int) then (spec_l16Ok.j0 k (l0_0.length : Int) ((rdOf ByteArray.empty l0_0 (wrap64 ((l0_0.length : Int) - 1))).toList == ([] : List UInt8)) l0_0) else (none)) else (none)) else (spec_l16Ok.j0 k (l0_0.length : Int) false l0_0))) = some r := h
  clear h
  have HC2 := Aside0.mk H
  clear H
  go_enter Try.func67, Try.ntmps67
  go_upto_region 2 with (first | ((with_reducible refine gate_dst (N := 1) rfl ?_); refine box_event ?hg (N := 1) ?hd (cs := #[.slice A0_0 l0_0.length c0_0]) (t := 43) ?hr ?_; (case hd => rfl); (case hg => rfl); (case hr => first | (go_simp; done) | (go_simp; rfl)); intro gb103 hg w3 hbox hb; have n0_ := Aside0.mk (below_step (by repeat (first | (with_reducible first | exact HB.out | apply below_alloc | apply pw_below_drewN | apply below_drew1) | exact HB.out)) hb); have n1_ := Aside0.mk (hbox); have n2_ := Aside0.mk ((by rw [hg]; exact (below_size (by repeat (first | (with_reducible first | exact HB.out | apply below_alloc | apply pw_below_drewN | apply below_drew1) | exact HB.out))) : w.heap.size ≤ gb103)); have n3_ := Aside0.mk ((by rw [hg]; exact (below_size (by repeat (first | (with_reducible first | exact HB.out | apply below_alloc | apply pw_below_drewN | apply below_drew1) | exact HB.out))) : w.heap.size ≤ gb103)); clear HB; have HB := n0_; have BK103 := n1_; have GW103 := n2_; have GE103 := n3_; clear n0_ n1_ n2_ n3_; clear hb hbox hg; have hcz4_0 : w3.cell? ⟨gb103, 0, none⟩ = some (.slice A0_0 l0_0.length c0_0) := (blk_cell BK103.out 0).trans rfl; have hfz4_0 := blk_frozen BK103.out 0))
  (try simp only [Act.put, List.setIfInBounds_toArray, List.set_cons_zero, List.set_cons_succ])
  go_cut [22] (fun v22 wc => ∃ (kq : Nat) (x22_1 : Bool), v22 = .bool x22_1 ∧ Aside0 (spec_l16Ok.j0 kq (l0_0.length : Int) x22_1 l0_0 = some r) ∧ Aside0 (kq ≤ k) ∧ Aside0 (wc.heap[gb103]? = some (.cells #[(.slice A0_0 l0_0.length c0_0)] 43 (0, 0))) ∧ Aside0 (Below w.heap.size w wc))
  case first =>
    have H := HC2.out
    clear HC2
    by_cases c5 : (l0_0.length : Int) > 30
    · rw [if_pos c5] at H
      have c5b0 : decide (30 < (l0_0.length : Int)) = true := decide_eq_true c5
      have c5b1 : decide (30 < l0_0.length) = true := decide_eq_true (by omega)
      clear c5
      (first | rw [c5b0] | (simp only [i64_w, i32_w]; rw [c5b0]) | skip)
      have H' := Aside0.mk H
      clear H
      go_wp2
      go_meet
      case rel => exact ⟨_, (true), (by first | rfl | (simp; done) | (simp [*]; done)), H', ⟨by first | omega | exact Nat.le_refl _⟩, ⟨by (with_reducible repeat (first | refine blk_drewN ?_ _ | refine blk_drew ?_ | refine blk_alloc ?_ _)); exact BK103.out⟩, ⟨by repeat (first | (with_reducible first | exact HB.out | apply below_alloc | apply pw_below_drewN | apply below_drew1 | refine below_set ?_ GE103.out) | exact HB.out)⟩⟩
    · rw [if_neg c5] at H
      have c5b0 : decide (30 < (l0_0.length : Int)) = false := decide_eq_false c5
      have c5b1 : decide (30 < l0_0.length) = false := decide_eq_false (by omega)
      clear c5
      (first | rw [c5b0] | (simp only [i64_w, i32_w]; rw [c5b0]) | skip)
      by_cases c6 : (l0_0.length : Int) > 0
      · rw [if_pos c6] at H
        have c6b0 : decide (0 < (l0_0.length : Int)) = true := decide_eq_true c6
        have c6b1 : decide (0 < l0_0.length) = true := decide_eq_true (by omega)
        clear c6
        obtain ⟨ji7, hji7⟩ : ∃ j_ : Int, (wrap64 ((l0_0.length : Int) - 1)) = j_ := ⟨_, rfl⟩
        replace H : (if 0 ≤ (ji7) then (if (ji7) < (l0_0.length : Int) then (spec_l16Ok.j0 k (l0_0.length : Int) ((rdOf ByteArray.empty l0_0 (ji7)).toList == ([] : List UInt8)) l0_0) else (none)) else (none)) = some r := by first | (rw [hji7] at H; exact H) | (simp only [hji7] at H ⊢; exact H)
        have hji7w : (IntKind.i64.wrap ((l0_0.length : Int) - 1)) = ji7 := (i64_w _).trans hji7
        by_cases c8 : 0 ≤ (ji7)
        · rw [if_pos c8] at H
          have c8b0 : decide (0 ≤ (ji7)) = true := decide_eq_true c8
          clear c8
          by_cases c9 : (ji7) < (l0_0.length : Int)
          · rw [if_pos c9] at H
            have c9b0 : decide ((ji7) < (l0_0.length : Int)) = true := decide_eq_true c9
            clear c9
            have H' := Aside0.mk H
            clear H
            have hcz10_0 : w3.cell? ⟨gb103, 0, none⟩ = some (.slice A0_0 l0_0.length c0_0) := (blk_cell BK103.out 0).trans rfl
            have hfz10_0 := blk_frozen BK103.out 0
            have p104 : 0 ≤ ((ji7) : Int) := of_decide_eq_true (by first | (with_reducible assumption) | assumption)
            have q104 : (ji7) < (l0_0.length : Int) := of_decide_eq_true (by first | (with_reducible assumption) | assumption)
            obtain ⟨ad104, e104, hx104_0⟩ := Kd.at_string HR0_0.out (ji7) p104 q104
            cases e104
            replace hx104_0 := (HB.out.cell (World.block_lt_of_cell? w _ hx104_0)).trans hx104_0
            replace p104 := eq_true p104
            replace q104 := eq_true q104
            go_wp2
            go_meet
            case rel => exact ⟨_, (((rdOf ByteArray.empty l0_0 (ji7)).toList == ([] : List UInt8))), (by first | rfl | (simp; done) | (simp only [← hji7] <;> (first | rfl | simp)) | (simp [*]; done)), H', ⟨by first | omega | exact Nat.le_refl _⟩, ⟨by (with_reducible repeat (first | refine blk_drewN ?_ _ | refine blk_drew ?_ | refine blk_alloc ?_ _)); exact BK103.out⟩, ⟨by repeat (first | (with_reducible first | exact HB.out | apply below_alloc | apply pw_below_drewN | apply below_drew1 | refine below_set ?_ GE103.out) | exact HB.out)⟩⟩
          · rw [if_neg c9] at H
            exact absurd H (by simp)
        · rw [if_neg c8] at H
          exact absurd H (by simp)
      · rw [if_neg c6] at H
        have c6b0 : decide (0 < (l0_0.length : Int)) = false := decide_eq_false c6
        have c6b1 : decide (0 < l0_0.length) = false := decide_eq_false (by omega)
        clear c6
        have H' := Aside0.mk H
        clear H
        go_wp2
        go_meet
        case rel => exact ⟨_, (false), (by first | rfl | (simp; done) | (simp [*]; done)), H', ⟨by first | omega | exact Nat.le_refl _⟩, ⟨by (with_reducible repeat (first | refine blk_drewN ?_ _ | refine blk_drew ?_ | refine blk_alloc ?_ _)); exact BK103.out⟩, ⟨by repeat (first | (with_reducible first | exact HB.out | apply below_alloc | apply pw_below_drewN | apply below_drew1 | refine below_set ?_ GE103.out) | exact HB.out)⟩⟩
  case rest =>
    clear HC2
    try clear p1
    try clear q1
    try clear hx1
    try clear p2
    try clear c5
    try clear c5b0
    try clear c5b1
    try clear c6
    try clear c6b0
    try clear c6b1
    try clear p6
    try clear c8
    try clear c8b0
    try clear c9
    try clear c9b0
    try clear p10
    try clear q10
    try clear hx10
    try clear hcz10_0
    try clear hcz4_0
    try clear hfz10_0
    try clear hfz4_0
    try clear hx104_0
    try clear p104
    try clear q104
    obtain ⟨kq, x22_1, rfl, HA, HJ1, BK103, HB⟩ := hcut
    cases kq with
    | zero => exact absurd HA.out (by simp [spec_l16Ok.j0])
    | succ kj1 =>
      have H := HA.out
      clear HA
      simp only [spec_l16Ok.j0] at H
      by_cases c11 : x22_1 = true
      · subst c11
        have H1 : (some false) = some r := by rw [if_pos rfl] at H; exact H
        clear H
        have H := H1
        clear H1
        obtain rfl := Option.some.inj H
        go_wp2
        go_ret
        exact ⟨by first | rfl | (simp [errW_none, errW_some] <;> rfl) | (simp [*, errW_none, errW_some] <;> rfl), by repeat (first | (with_reducible first | exact HB.out | apply below_alloc | apply pw_below_drewN | apply below_drew1 | refine below_set ?_ GE103.out) | exact HB.out)⟩
      · replace c11 := Bool.eq_false_iff.mpr c11
        subst c11
        have H1 : (spec_l16Ok.l0 kj1 (l0_0.length : Int) 0 l0_0) = some r := by rw [if_neg (show ¬ (false = true) by decide)] at H; exact H
        clear H
        have H := H1
        clear H1
        have H' := Aside0.mk H
        clear H
        go_wp2
        go_loopg [4] kj1 (fun kq v4 w' => ∃ (x4_2 : Int), v4 = .int .i64 x4_2 ∧ Aside0 (spec_l16Ok.l0 kq (l0_0.length : Int) x4_2 l0_0 = some r) ∧ Aside0 (kq ≤ kj1) ∧ Aside0 (w'.heap[gb103]? = some (.cells #[(.slice A0_0 l0_0.length c0_0)] 43 (0, 0))) ∧ Aside0 (Below w.heap.size w w'))
        case atStart => exact ⟨(0), (by first | rfl | (simp; done) | (simp [*]; done)), H', ⟨Nat.le_refl _⟩, ⟨by (with_reducible repeat (first | refine blk_drewN ?_ _ | refine blk_drew ?_ | refine blk_alloc ?_ _)); exact BK103.out⟩, ⟨by repeat (first | (with_reducible first | exact HB.out | apply below_alloc | apply pw_below_drewN | apply below_drew1 | refine below_set ?_ GE103.out) | exact HB.out)⟩⟩
        case round =>
          clear H'
          try clear c1
          try clear p1
          try clear q1
          try clear hx1
          try clear p2
          try clear c5
          try clear c5b0
          try clear c5b1
          try clear c6
          try clear c6b0
          try clear c6b1
          try clear p6
          try clear c8
          try clear c8b0
          try clear c9
          try clear c9b0
          try clear p10
          try clear q10
          try clear hx10
          try clear c11
          try clear hcz10_0
          try clear hcz4_0
          try clear hfz10_0
          try clear hfz4_0
          try clear hx104_0
          try clear p1
          try clear p10
          try clear p104
          try clear p2
          try clear p6
          try clear q1
          try clear q10
          try clear q104
          obtain ⟨x4_2, rfl, HA, HK2, BK103, HB⟩ := hrel
          cases gk with
          | zero => exact absurd HA.out (by simp [spec_l16Ok.l0])
          | succ k2 =>
            have H := HA.out
            clear HA
            simp only [spec_l16Ok.l0] at H
            by_cases c12 : x4_2 < (l0_0.length : Int)
            · rw [if_pos c12] at H
              have c12b0 : decide (x4_2 < (l0_0.length : Int)) = true := decide_eq_true c12
              clear c12
              by_cases c13 : 0 ≤ x4_2
              · rw [if_pos c13] at H
                have c13b0 : decide (0 ≤ x4_2) = true := decide_eq_true c13
                clear c13
                by_cases c14 : x4_2 < (l0_0.length : Int)
                · rw [if_pos c14] at H
                  have c14b0 : decide (x4_2 < (l0_0.length : Int)) = true := decide_eq_true c14
                  clear c14
                  by_cases c15 : (rdOf ByteArray.empty l0_0 x4_2).toList = ([] : List UInt8)
                  · rw [if_pos c15] at H
                    have c15b0 : ((rdOf ByteArray.empty l0_0 x4_2).toList == ([] : List UInt8)) = true := beq_iff_eq.mpr c15
                    have c15b1 : ((rdOf ByteArray.empty l0_0 x4_2).toList != ([] : List UInt8)) = false := bne_eq_false_iff_eq.mpr c15
                    clear c15
                    have H' := Aside0.mk H
                    clear H
                    have hcz16_0 : wr.cell? ⟨gb103, 0, none⟩ = some (.slice A0_0 l0_0.length c0_0) := (blk_cell BK103.out 0).trans rfl
                    have hfz16_0 := blk_frozen BK103.out 0
                    have p105 : 0 ≤ (x4_2 : Int) := of_decide_eq_true (by first | (with_reducible assumption) | assumption)
                    have q105 : x4_2 < (l0_0.length : Int) := of_decide_eq_true (by first | (with_reducible assumption) | assumption)
                    obtain ⟨ad105, e105, hx105_0⟩ := Kd.at_string HR0_0.out x4_2 p105 q105
                    cases e105
                    replace hx105_0 := (HB.out.cell (World.block_lt_of_cell? w _ hx105_0)).trans hx105_0
                    replace p105 := eq_true p105
                    replace q105 := eq_true q105
                    go_wp2
                    go_roundg k2
                    case measure => have := HJ1.out; have := HK2.out; omega
                    case rel => exact ⟨(wrap64 (x4_2 + 1)), (by first | rfl | (simp; done) | (simp [*]; done)), H', ⟨by have := HJ1.out; have := HK2.out; omega⟩, ⟨by (with_reducible repeat (first | refine blk_drewN ?_ _ | refine blk_drew ?_ | refine blk_alloc ?_ _)); exact BK103.out⟩, ⟨by repeat (first | (with_reducible first | exact HB.out | apply below_alloc | apply pw_below_drewN | apply below_drew1 | refine below_set ?_ GE103.out) | exact HB.out)⟩⟩
                  · rw [if_neg c15] at H
                    have c15b0 : ((rdOf ByteArray.empty l0_0 x4_2).toList == ([] : List UInt8)) = false := beq_eq_false_iff_ne.mpr c15
                    have c15b1 : ((rdOf ByteArray.empty l0_0 x4_2).toList != ([] : List UInt8)) = true := bne_iff_ne.mpr c15
                    replace H := Option.bind_eq_some_iff.mp H
                    obtain ⟨t107, A170, H⟩ := H
                    replace H : (if t107 = true then (spec_l16Ok.l0 k2 (l0_0.length : Int) (wrap64 (x4_2 + 1)) l0_0) else (some false)) = some r := H
                    have A17 := Aside0.mk A170
                    clear A170
                    by_cases c18 : t107 = true
                    · subst c18
                      have H1 : (spec_l16Ok.l0 k2 (l0_0.length : Int) (wrap64 (x4_2 + 1)) l0_0) = some r := by rw [if_pos rfl] at H; exact H
                      clear H
                      have H := H1
                      clear H1
                      have H' := Aside0.mk H
                      clear H
                      have hcz19_0 : wr.cell? ⟨gb103, 0, none⟩ = some (.slice A0_0 l0_0.length c0_0) := (blk_cell BK103.out 0).trans rfl
                      have hfz19_0 := blk_frozen BK103.out 0
                      have p105 : 0 ≤ (x4_2 : Int) := of_decide_eq_true (by first | (with_reducible assumption) | assumption)
                      have q105 : x4_2 < (l0_0.length : Int) := of_decide_eq_true (by first | (with_reducible assumption) | assumption)
                      obtain ⟨ad105, e105, hx105_0⟩ := Kd.at_string HR0_0.out x4_2 p105 q105
                      cases e105
                      replace hx105_0 := (HB.out.cell (World.block_lt_of_cell? w _ hx105_0)).trans hx105_0
                      replace p105 := eq_true p105
                      replace q105 := eq_true q105
                      have p106 : 0 ≤ (x4_2 : Int) := of_decide_eq_true (by first | (with_reducible assumption) | assumption)
                      have q106 : x4_2 < (l0_0.length : Int) := of_decide_eq_true (by first | (with_reducible assumption) | assumption)
                      obtain ⟨ad106, e106, hx106_0⟩ := Kd.at_string HR0_0.out x4_2 p106 q106
                      obtain rfl : ad105 = ad106 := (by injection e106)
                      replace hx106_0 := (HB.out.cell (World.block_lt_of_cell? w _ hx106_0)).trans hx106_0
                      replace p106 := eq_true p106
                      replace q106 := eq_true q106
                      go_wp2_with (first | (go_at_call 90; (with_reducible refine (spec_IsName.calls k2 (rdOf ByteArray.empty l0_0 x4_2) true _ A17.out).mono ?_); rintro e w' ⟨rfl, ⟨nd, rfl⟩⟩))
                      go_roundg k2
                      case measure => have := HJ1.out; have := HK2.out; omega
                      case rel => exact ⟨(wrap64 (x4_2 + 1)), (by first | rfl | (simp; done) | (simp [*]; done)), H', ⟨by have := HJ1.out; have := HK2.out; omega⟩, ⟨by (with_reducible repeat (first | refine blk_drewN ?_ _ | refine blk_drew ?_ | refine blk_alloc ?_ _)); exact BK103.out⟩, ⟨by repeat (first | (with_reducible first | exact HB.out | apply below_alloc | apply pw_below_drewN | apply below_drew1 | refine below_set ?_ GE103.out) | exact HB.out)⟩⟩
                    · replace c18 := Bool.eq_false_iff.mpr c18
                      subst c18
                      have H1 : (some false) = some r := by rw [if_neg (show ¬ (false = true) by decide)] at H; exact H
                      clear H
                      have H := H1
                      clear H1
                      obtain rfl := Option.some.inj H
                      have hcz20_0 : wr.cell? ⟨gb103, 0, none⟩ = some (.slice A0_0 l0_0.length c0_0) := (blk_cell BK103.out 0).trans rfl
                      have hfz20_0 := blk_frozen BK103.out 0
                      have p105 : 0 ≤ (x4_2 : Int) := of_decide_eq_true (by first | (with_reducible assumption) | assumption)
                      have q105 : x4_2 < (l0_0.length : Int) := of_decide_eq_true (by first | (with_reducible assumption) | assumption)
                      obtain ⟨ad105, e105, hx105_0⟩ := Kd.at_string HR0_0.out x4_2 p105 q105
                      cases e105
                      replace hx105_0 := (HB.out.cell (World.block_lt_of_cell? w _ hx105_0)).trans hx105_0
                      replace p105 := eq_true p105
                      replace q105 := eq_true q105
                      have p106 : 0 ≤ (x4_2 : Int) := of_decide_eq_true (by first | (with_reducible assumption) | assumption)
                      have q106 : x4_2 < (l0_0.length : Int) := of_decide_eq_true (by first | (with_reducible assumption) | assumption)
                      obtain ⟨ad106, e106, hx106_0⟩ := Kd.at_string HR0_0.out x4_2 p106 q106
                      obtain rfl : ad105 = ad106 := (by injection e106)
                      replace hx106_0 := (HB.out.cell (World.block_lt_of_cell? w _ hx106_0)).trans hx106_0
                      replace p106 := eq_true p106
                      replace q106 := eq_true q106
                      go_wp2_with (first | (go_at_call 90; (with_reducible refine (spec_IsName.calls k2 (rdOf ByteArray.empty l0_0 x4_2) false _ A17.out).mono ?_); rintro e w' ⟨rfl, ⟨nd, rfl⟩⟩))
                      go_ret
                      exact ⟨by first | rfl | (simp [errW_none, errW_some] <;> rfl) | (simp [*, errW_none, errW_some] <;> rfl), by repeat (first | (with_reducible first | exact HB.out | apply below_alloc | apply pw_below_drewN | apply below_drew1 | refine below_set ?_ GE103.out) | exact HB.out)⟩
                · rw [if_neg c14] at H
                  exact absurd H (by simp)
              · rw [if_neg c13] at H
                exact absurd H (by simp)
            · rw [if_neg c12] at H
              have c12b0 : decide (x4_2 < (l0_0.length : Int)) = false := decide_eq_false c12
              clear c12
              obtain rfl := Option.some.inj H
              go_wp2
              go_ret
              exact ⟨by first | rfl | (simp [errW_none, errW_some] <;> rfl) | (simp [*, errW_none, errW_some] <;> rfl), by repeat (first | (with_reducible first | exact HB.out | apply below_alloc | apply pw_below_drewN | apply below_drew1 | refine below_set ?_ GE103.out) | exact HB.out)⟩

/-! ### spec_DecodeHeap: function 29 -/
mutual
def spec_DecodeHeap.l0 : Nat → ByteArray → Int → ByteArray → Int → Bool → List ByteArray → Option (List ByteArray × Bool)
  | 0, _, _, _, _, _, _ => none
  | k + 1, x0, x6, x110000, x110001, x110002, x111000 => if x6 > 0 then (spec_DecodeHeap.j1 k x0 x6 (!x110002) x110000 x110001 x110002 x111000) else (spec_DecodeHeap.j1 k x0 x6 false x110000 x110001 x110002 x111000)
def spec_DecodeHeap.j1 : Nat → ByteArray → Int → Bool → ByteArray → Int → Bool → List ByteArray → Option (List ByteArray × Bool)
  | 0, _, _, _, _, _, _, _ => none
  | k + 1, x0, x6, x21, x110000, x110001, x110002, x111000 => if x21 = true then ((spec_l02Reader_byte.f x110000 x110001 x110002).bind fun bt115 => ((spec_l02Reader_take.f bt115.2.1 bt115.2.2.1 bt115.2.2.2 bt115.1).bind fun bt119 => (if x111000.length < 8796093022208 then (spec_DecodeHeap.l0 k x0 (wrap64 (x6 - 1)) bt119.2.1 bt119.2.2.1 bt119.2.2.2 (x111000 ++ [bt119.1])) else (none)))) else (if x110002 = true then (some (([] : List ByteArray), false)) else (if x110001 = (x0.size : Int) then ((spec_l16Ok.f k x111000).bind fun t126 => (if t126 = true then (some (x111000, true)) else (some (([] : List ByteArray), false)))) else (some (([] : List ByteArray), false))))
end
def spec_DecodeHeap.f (k : Nat) (a0 : ByteArray) : Option (List ByteArray × Bool) := (spec_l02Reader_byte.f a0 0 false).bind fun bt111 => (spec_DecodeHeap.l0 k a0 bt111.1 bt111.2.1 bt111.2.2.1 bt111.2.2.2 ([] : List ByteArray))
theorem spec_DecodeHeap.mono_l : ∀ k, (∀ y0 y1 y2 y3 y4 y5, LeO (spec_DecodeHeap.l0 k y0 y1 y2 y3 y4 y5) (spec_DecodeHeap.l0 (k + 1) y0 y1 y2 y3 y4 y5)) ∧ (∀ y0 y1 y2 y3 y4 y5 y6, LeO (spec_DecodeHeap.j1 k y0 y1 y2 y3 y4 y5 y6) (spec_DecodeHeap.j1 (k + 1) y0 y1 y2 y3 y4 y5 y6))
  | 0 => ⟨fun _ _ _ _ _ _ r h => by simp [spec_DecodeHeap.l0] at h, fun _ _ _ _ _ _ _ r h => by simp [spec_DecodeHeap.j1] at h⟩
  | k + 1 => by
    obtain ⟨ih0, ih1⟩ := spec_DecodeHeap.mono_l k
    refine ⟨?_, ?_⟩
    · intro y0 y1 y2 y3 y4 y5
      unfold spec_DecodeHeap.l0
      repeat' first
      | (with_reducible exact ih0 _ _ _ _ _ _)
      | (with_reducible exact ih1 _ _ _ _ _ _ _)
      | (with_reducible exact spec_l16Ok.mono _ _)
      | (with_reducible exact LeO.refl _)
      | (with_reducible exact LeO.none _)
      | (with_reducible refine LeO.ite ?_ ?_)
      | (with_reducible refine LeO.bind ?_ (fun _ => ?_))
      | exact ih0 _ _ _ _ _ _
      | exact ih1 _ _ _ _ _ _ _
      | exact spec_l16Ok.mono _ _
      | exact LeO.none _
      | refine LeO.ite ?_ ?_
      | refine LeO.bind ?_ (fun _ => ?_)
    · intro y0 y1 y2 y3 y4 y5 y6
      unfold spec_DecodeHeap.j1
      repeat' first
      | (with_reducible exact ih0 _ _ _ _ _ _)
      | (with_reducible exact ih1 _ _ _ _ _ _ _)
      | (with_reducible exact spec_l16Ok.mono _ _)
      | (with_reducible exact LeO.refl _)
      | (with_reducible exact LeO.none _)
      | (with_reducible refine LeO.ite ?_ ?_)
      | (with_reducible refine LeO.bind ?_ (fun _ => ?_))
      | exact ih0 _ _ _ _ _ _
      | exact ih1 _ _ _ _ _ _ _
      | exact spec_l16Ok.mono _ _
      | exact LeO.none _
      | refine LeO.ite ?_ ?_
      | refine LeO.bind ?_ (fun _ => ?_)
theorem spec_DecodeHeap.mono : ∀ a0 k, LeO (spec_DecodeHeap.f k a0) (spec_DecodeHeap.f (k + 1) a0) := by
  intro a0 k
  obtain ⟨ih0, ih1⟩ := spec_DecodeHeap.mono_l k
  unfold spec_DecodeHeap.f
  repeat' first
      | (with_reducible exact ih0 _ _ _ _ _ _)
      | (with_reducible exact ih1 _ _ _ _ _ _ _)
      | (with_reducible exact spec_l16Ok.mono _ _)
      | (with_reducible exact LeO.refl _)
      | (with_reducible exact LeO.none _)
      | (with_reducible refine LeO.ite ?_ ?_)
      | (with_reducible refine LeO.bind ?_ (fun _ => ?_))
      | exact ih0 _ _ _ _ _ _
      | exact ih1 _ _ _ _ _ _ _
      | exact spec_l16Ok.mono _ _
      | exact LeO.none _
      | refine LeO.ite ?_ ?_
      | refine LeO.bind ?_ (fun _ => ?_)
def spec_DecodeHeap.T6 : Bool × List (List Nat × List Nat) := (true, [([], []), ([0], [0]), ([], []), ([], []), ([3], [3]), ([2, 4, 4], [2, 4]), ([5], [5]), ([1, 6, 5], [1, 6]), ([0, 1, 2, 3, 4, 5, 6, 7], []), ([8, 7, 7, 0, 1, 2, 3, 4, 5, 6, 7], [7, 8])])
def spec_DecodeHeap.B6 : List Nat := [0, 1, 0, 0, 8, 28, 60, 127, 255, 511]
theorem spec_DecodeHeap.tab6 : rtab .any (opsOf Try.f29 6) = spec_DecodeHeap.T6 := by kernel_rfl
theorem spec_DecodeHeap.bits6 : waitsOk spec_DecodeHeap.T6.2 spec_DecodeHeap.B6 = true := by kernel_rfl
set_option maxHeartbeats 8000000 in
set_option maxRecDepth 100000 in
theorem spec_DecodeHeap.calls (k : Nat) (a0 : ByteArray) (r1 : List ByteArray) (r2 : Bool) (w : World) (h : spec_DecodeHeap.f k a0 = some (r1, r2)) :
    Calls Try.prog 29 #[.string a0] w fun e w' => ∃ v0_ : Value, e = .returned (.tuple #[.agg #[v0_], .bool r2]) ∧ Kd.R Kd.string 9 w' w.heap.size (fun _ => True) v0_ r1 ∧ Below w.heap.size w w' := by
  have hu43 := Try.underlying43
  have hu81 := Try.underlying81
  have HB := Aside0.mk (Below.refl w.heap.size w)
  have H : ((spec_l02Reader_byte.f a0 0 false).bind fun bt111 => (spec_DecodeHeap.l0 k a0 bt111.1 bt111.2.1 bt111.2.2.1 bt111.2.2.2 ([] : List ByteArray))) = some (r1, r2) := h
  clear h
  replace H := Option.bind_eq_some_iff.mp H
  obtain ⟨⟨t111, t112, t113, t114⟩, A20, H⟩ := H
  replace H : (spec_DecodeHeap.l0 k a0 t111 t112 t113 t114 ([] : List ByteArray)) = some (r1, r2) := H
  have A2 := Aside0.mk A20
  clear A20
  have H' := Aside0.mk H
  clear H
  go_enter Try.func29, Try.ntmps29
  go_wp2_with (first | ((with_reducible refine gate_dst (N := 2) rfl ?_); (try (refine gate_guard (by rfl) ?_; dsimp only)); refine box_event ?hg (N := 2) ?hd (cs := #[.slice none 0 0]) (t := 43) ?hr ?_; (case hd => rfl); (case hg => rfl); (case hr => first | (go_simp; done) | (go_simp; rfl)); intro gb108 hg w3 hbox hb; have n0_ := Aside0.mk (below_step (by repeat (first | (with_reducible first | exact HB.out | apply below_alloc | apply pw_below_drewN | apply below_drew1) | exact HB.out)) hb); have n1_ := Aside0.mk (hbox); have n2_ := Aside0.mk ((by rw [hg]; exact (below_size (by repeat (first | (with_reducible first | exact HB.out | apply below_alloc | apply pw_below_drewN | apply below_drew1) | exact HB.out))) : w.heap.size ≤ gb108)); have n3_ := Aside0.mk ((by rw [hg]; exact (below_size (by repeat (first | (with_reducible first | exact HB.out | apply below_alloc | apply pw_below_drewN | apply below_drew1) | exact HB.out))) : w.heap.size ≤ gb108)); clear HB; have HB := n0_; have BK108 := n1_; have GW108 := n2_; have GE108 := n3_; clear n0_ n1_ n2_ n3_; clear hb hbox hg) | ((with_reducible refine gate_dst (N := 9) rfl ?_); (try (refine gate_guard (by rfl) ?_; dsimp only)); refine box_event ?hg (N := 9) ?hd (cs := #[.string a0, .int .i64 0, .bool false]) (t := 81) ?hr ?_; (case hd => rfl); (case hg => rfl); (case hr => first | (go_simp; done) | (go_simp; rfl)); intro gb109 hg w4 hbox hb; have n0_ := Aside0.mk (blk_below (g := gb108) (o := .cells #[.slice none 0 0] 43 (0, 0)) (by (with_reducible repeat (first | refine blk_drewN ?_ _ | refine blk_drew ?_ | refine blk_alloc ?_ _)); exact BK108.out) hb); have n1_ := Aside0.mk (below_step (by repeat (first | (with_reducible first | exact HB.out | apply below_alloc | apply pw_below_drewN | apply below_drew1 | refine below_set ?_ GE108.out) | exact HB.out)) hb); have n2_ := Aside0.mk (hbox); have n3_ := Aside0.mk ((by rw [hg]; exact (below_size (by repeat (first | (with_reducible first | exact HB.out | apply below_alloc | apply pw_below_drewN | apply below_drew1 | refine below_set ?_ GE108.out) | exact HB.out))) : w.heap.size ≤ gb109)); have n4_ := Aside0.mk ((by rw [hg]; exact (below_size (by repeat (first | (with_reducible first | exact HB.out | apply below_alloc | apply pw_below_drewN | apply below_drew1 | refine below_set ?_ GE108.out) | exact HB.out))) : w.heap.size ≤ gb109)); have n5_ := Aside0.mk ((by rw [hg]; exact Nat.ne_of_lt (blk_lt (g := gb108) (o := .cells #[.slice none 0 0] 43 (0, 0)) (by (with_reducible repeat (first | refine blk_drewN ?_ _ | refine blk_drew ?_ | refine blk_alloc ?_ _)); exact BK108.out)) : gb108 ≠ gb109)); have n6_ := Aside0.mk ((by rw [hg]; exact Nat.ne_of_gt (blk_lt (g := gb108) (o := .cells #[.slice none 0 0] 43 (0, 0)) (by (with_reducible repeat (first | refine blk_drewN ?_ _ | refine blk_drew ?_ | refine blk_alloc ?_ _)); exact BK108.out)) : gb109 ≠ gb108)); have n7_ := Aside0.mk ((⟨hbox, by rw [hg]; exact (below_size (by repeat (first | (with_reducible first | exact HB.out | apply below_alloc | apply pw_below_drewN | apply below_drew1 | refine below_set ?_ GE108.out) | exact HB.out)))⟩ : IsS81 w w4 gb109 a0 0 false)); clear BK108; clear HB; have BK108 := n0_; have HB := n1_; have BK109 := n2_; have GW109 := n3_; have GE109 := n4_; have NB108_109 := n5_; have NB109_108 := n6_; have HI109 := n7_; clear n0_ n1_ n2_ n3_ n4_ n5_ n6_ n7_; clear hb hbox hg) | ((with_reducible refine gate_dst (N := 5) rfl ?_); (try (refine gate_guard (by rfl) ?_; dsimp only)); refine box_event ?hg (N := 5) ?hd (cs := #[.slice none 0 0]) (t := 43) ?hr ?_; (case hd => rfl); (case hg => rfl); (case hr => first | (go_simp; done) | (go_simp; rfl)); intro gb110 hg w5 hbox hb; have n0_ := Aside0.mk (blk_below (g := gb108) (o := .cells #[.slice none 0 0] 43 (0, 0)) (by (with_reducible repeat (first | refine blk_drewN ?_ _ | refine blk_drew ?_ | refine blk_alloc ?_ _)); exact BK108.out) hb); have n1_ := Aside0.mk (IsS81.below (by repeat (first | (with_reducible first | exact HI109.out | apply IsS81.alloc | apply IsS81.drewN | apply IsS81.drew | apply IsS81.set_0 | apply IsS81.set_1 | apply IsS81.set_2 | refine IsS81.far ?_ NB109_108.out _) | exact HI109.out)) hb); have n2_ := Aside0.mk (below_step (by repeat (first | (with_reducible first | exact HB.out | apply below_alloc | apply pw_below_drewN | apply below_drew1 | refine below_set ?_ (IsS81.ge HI109.out) | refine below_set ?_ GE108.out) | exact HB.out)) hb); have n3_ := Aside0.mk (hbox); have n4_ := Aside0.mk ((by rw [hg]; exact (below_size (by repeat (first | (with_reducible first | exact HB.out | apply below_alloc | apply pw_below_drewN | apply below_drew1 | refine below_set ?_ (IsS81.ge HI109.out) | refine below_set ?_ GE108.out) | exact HB.out))) : w.heap.size ≤ gb110)); have n5_ := Aside0.mk ((by rw [hg]; exact (below_size (by repeat (first | (with_reducible first | exact HB.out | apply below_alloc | apply pw_below_drewN | apply below_drew1 | refine below_set ?_ (IsS81.ge HI109.out) | refine below_set ?_ GE108.out) | exact HB.out))) : w.heap.size ≤ gb110)); have n6_ := Aside0.mk ((by rw [hg]; exact Nat.ne_of_lt (blk_lt (g := gb108) (o := .cells #[.slice none 0 0] 43 (0, 0)) (by (with_reducible repeat (first | refine blk_drewN ?_ _ | refine blk_drew ?_ | refine blk_alloc ?_ _)); exact BK108.out)) : gb108 ≠ gb110)); have n7_ := Aside0.mk ((by rw [hg]; exact Nat.ne_of_gt (blk_lt (g := gb108) (o := .cells #[.slice none 0 0] 43 (0, 0)) (by (with_reducible repeat (first | refine blk_drewN ?_ _ | refine blk_drew ?_ | refine blk_alloc ?_ _)); exact BK108.out)) : gb110 ≠ gb108)); have n8_ := Aside0.mk ((by rw [hg]; exact Nat.ne_of_lt (IsS81.lt (show IsS81 w _ gb109 a0 0 false from by repeat (first | (with_reducible first | exact HI109.out | apply IsS81.alloc | apply IsS81.drewN | apply IsS81.drew | apply IsS81.set_0 | apply IsS81.set_1 | apply IsS81.set_2 | refine IsS81.far ?_ NB109_108.out _) | exact HI109.out))) : gb109 ≠ gb110)); have n9_ := Aside0.mk ((by rw [hg]; exact Nat.ne_of_gt (IsS81.lt (show IsS81 w _ gb109 a0 0 false from by repeat (first | (with_reducible first | exact HI109.out | apply IsS81.alloc | apply IsS81.drewN | apply IsS81.drew | apply IsS81.set_0 | apply IsS81.set_1 | apply IsS81.set_2 | refine IsS81.far ?_ NB109_108.out _) | exact HI109.out))) : gb110 ≠ gb109)); clear BK108; clear HI109; clear HB; have BK108 := n0_; have HI109 := n1_; have HB := n2_; have BK110 := n3_; have GW110 := n4_; have GE110 := n5_; have NB108_110 := n6_; have NB110_108 := n7_; have NB109_110 := n8_; have NB110_109 := n9_; clear n0_ n1_ n2_ n3_ n4_ n5_ n6_ n7_ n8_ n9_; clear hb hbox hg; have hnb6 := NB110_108.out; have hnc6 := NB108_110.out; have hnb7 := NB110_109.out; have hnc7 := NB109_110.out; have hcz8_0 : w5.cell? ⟨gb110, 0, none⟩ = some (.slice none 0 0) := (blk_cell BK110.out 0).trans rfl; have hfz8_0 := blk_frozen BK110.out 0) | ((with_reducible refine gate_callee (f := 65) rfl ?_); refine goesL_ (some 12) rfl rfl Try.func65 (by kernel_rfl) rfl #[.pointer (some ⟨gb109, 0, none⟩)] rfl (by (try simp only [List.map_toArray, List.map_cons, List.map_nil]); first | done | rfl | (simp only [List.length_drop, List.length_take]; rfl)) ?_; (with_reducible refine (spec_l02Reader_byte.calls gb109 a0 0 false t111 t112 t113 t114 w _ ?side1 ?side2 A2.out).mono ?_); (case side1 => repeat (first | (with_reducible first | exact HI109.out | apply IsS81.alloc | apply IsS81.drewN | apply IsS81.drew | apply IsS81.set_0 | apply IsS81.set_1 | apply IsS81.set_2 | refine IsS81.far ?_ NB109_108.out _ | refine IsS81.far ?_ NB109_110.out _) | exact HI109.out)); (case side2 => repeat (first | (with_reducible first | exact HB.out | apply below_alloc | apply pw_below_drewN | apply below_drew1 | refine below_set ?_ (IsS81.ge HI109.out) | refine below_set ?_ GE108.out | refine below_set ?_ GE110.out) | exact HB.out)); rintro e w9 ⟨rfl, hi, hb, hk⟩; refine ⟨_, rfl, ?_⟩; have n0_ := Aside0.mk (KeepBut.blk hk (g' := gb108) (o := .cells #[.slice none 0 0] 43 (0, 0)) (by (with_reducible repeat (first | refine blk_drewN ?_ _ | refine blk_drew ?_ | refine blk_alloc ?_ _)); refine blk_far ?_ NB108_110.out _; (with_reducible repeat (first | refine blk_drewN ?_ _ | refine blk_drew ?_ | refine blk_alloc ?_ _)); exact BK108.out) NB108_109.out (by simp)); have n1_ := Aside0.mk (KeepBut.blk hk (g' := gb110) (o := .cells #[.slice none 0 0] 43 (0, 0)) (by (with_reducible repeat (first | refine blk_drewN ?_ _ | refine blk_drew ?_ | refine blk_alloc ?_ _)); refine blk_put (cs := #[.slice none 0 0]) ?_ 0 _ rfl; (with_reducible repeat (first | refine blk_drewN ?_ _ | refine blk_drew ?_ | refine blk_alloc ?_ _)); exact BK110.out) NB110_109.out (by simp)); have n2_ := Aside0.mk (hb); have n3_ := Aside0.mk (hi); clear BK108; clear BK110; clear HB; clear HI109; have BK108 := n0_; have BK110 := n1_; have HB := n2_; have HI109 := n3_; clear n0_ n1_ n2_ n3_; (try clear hb); (try clear hb2); (try clear hk); (try clear hi)))
  go_loopg [6] k (fun kq v6 w' => ∃ (x6_1 : Int) (x110000_1 : ByteArray) (x110001_1 : Int) (x110002_1 : Bool) (x111000_1 : List ByteArray) (u111000 : Value), v6 = .int .i64 x6_1 ∧ Aside0 (spec_DecodeHeap.l0 kq a0 x6_1 x110000_1 x110001_1 x110002_1 x111000_1 = some (r1, r2)) ∧ Aside0 (kq ≤ k) ∧ Aside0 (Kd.R Kd.string 9 w' w.heap.size (fun _ => True) u111000 x111000_1) ∧ Aside0 (w'.heap[gb108]? = some (.cells #[(.slice none 0 0)] 43 (0, 0))) ∧ Aside0 (w'.heap[gb110]? = some (.cells #[u111000] 43 (0, 0))) ∧ Aside0 (IsS81 w w' gb109 x110000_1 x110001_1 x110002_1) ∧ Aside0 (Below w.heap.size w w'))
  case atStart => exact ⟨(t111), (t112), (t113), (t114), (([] : List ByteArray)), (.slice none 0 0), (by first | rfl | (simp; done) | (simp [*]; done)), H', ⟨Nat.le_refl _⟩, ⟨by first | exact Kd.R_nil _ _ _ _ _ | exact Kd.N_nil _ _ _ _ _ | exact Kd.V_nil _ _ _ _ _ | exact Kd.Q_nil _ _ _ _ _ | exact Kd.S_nil _ _ _ _ _⟩, ⟨by (with_reducible repeat (first | refine blk_drewN ?_ _ | refine blk_drew ?_ | refine blk_alloc ?_ _)); exact BK108.out⟩, ⟨by (with_reducible repeat (first | refine blk_drewN ?_ _ | refine blk_drew ?_ | refine blk_alloc ?_ _)); exact BK110.out⟩, ⟨by repeat (first | (with_reducible first | exact HI109.out | apply IsS81.alloc | apply IsS81.drewN | apply IsS81.drew | apply IsS81.set_0 | apply IsS81.set_1 | apply IsS81.set_2 | refine IsS81.far ?_ NB109_108.out _ | refine IsS81.far ?_ NB109_110.out _) | exact HI109.out)⟩, ⟨by repeat (first | (with_reducible first | exact HB.out | apply below_alloc | apply pw_below_drewN | apply below_drew1 | refine below_set ?_ (IsS81.ge HI109.out) | refine below_set ?_ GE108.out | refine below_set ?_ GE110.out) | exact HB.out)⟩⟩
  case round =>
    clear H'
    try clear c2
    try clear p2
    try clear c6
    try clear c7
    try clear hcz8_0
    try clear hfz8_0
    obtain ⟨x6_1, x110000_1, x110001_1, x110002_1, x111000_1, u111000, rfl, HA, HK1, HO_111000, BK108, BK110, HI109, HB⟩ := hrel
    cases gk with
    | zero => exact absurd HA.out (by simp [spec_DecodeHeap.l0])
    | succ k1 =>
      have H := HA.out
      clear HA
      simp only [spec_DecodeHeap.l0] at H
      have HC10 := Aside0.mk H
      clear H
      go_upto_region 4 with (fail)
      go_cut [21] (fun v21 wc => ∃ (kq : Nat) (x21_9 : Bool), v21 = .bool x21_9 ∧ Aside0 (spec_DecodeHeap.j1 kq a0 x6_1 x21_9 x110000_1 x110001_1 x110002_1 x111000_1 = some (r1, r2)) ∧ Aside0 (kq ≤ k1) ∧ Aside0 (Kd.R Kd.string 9 wc w.heap.size (fun _ => True) u111000 x111000_1) ∧ Aside0 (wc.heap[gb108]? = some (.cells #[(.slice none 0 0)] 43 (0, 0))) ∧ Aside0 (wc.heap[gb110]? = some (.cells #[u111000] 43 (0, 0))) ∧ Aside0 (IsS81 w wc gb109 x110000_1 x110001_1 x110002_1) ∧ Aside0 (Below w.heap.size w wc))
      case first =>
        have H := HC10.out
        clear HC10
        by_cases c11 : x6_1 > 0
        · rw [if_pos c11] at H
          have c11b0 : decide (0 < x6_1) = true := decide_eq_true c11
          clear c11
          (first | rw [c11b0] | (simp only [i64_w, i32_w]; rw [c11b0]) | skip)
          have H' := Aside0.mk H
          clear H
          obtain ⟨HGz12, hgz12⟩ := HI109.out
          have hcz12_0 := cellS81_0 HGz12
          have hcz12_1 := cellS81_1 HGz12
          have hcz12_2 := cellS81_2 HGz12
          have hfz12_0 := blk_frozen HGz12 0
          have hfz12_1 := blk_frozen HGz12 1
          have hfz12_2 := blk_frozen HGz12 2
          clear HGz12 hgz12
          go_wp2
          go_meet
          case rel => exact ⟨_, (!x110002_1), (by first | rfl | (simp; done) | (simp [*]; done)), H', ⟨by have := HK1.out; first | omega | exact Nat.le_refl _⟩, ⟨by (with_reducible repeat (first | apply Kd.R_alloc | apply Kd.R_drewN | apply Kd.R_drew)); exact HO_111000.out⟩, ⟨by (with_reducible repeat (first | refine blk_drewN ?_ _ | refine blk_drew ?_ | refine blk_alloc ?_ _)); exact BK108.out⟩, ⟨by (with_reducible repeat (first | refine blk_drewN ?_ _ | refine blk_drew ?_ | refine blk_alloc ?_ _)); exact BK110.out⟩, ⟨by repeat (first | (with_reducible first | exact HI109.out | apply IsS81.alloc | apply IsS81.drewN | apply IsS81.drew | apply IsS81.set_0 | apply IsS81.set_1 | apply IsS81.set_2 | refine IsS81.far ?_ NB109_108.out _ | refine IsS81.far ?_ NB109_110.out _) | exact HI109.out)⟩, ⟨by repeat (first | (with_reducible first | exact HB.out | apply below_alloc | apply pw_below_drewN | apply below_drew1 | refine below_set ?_ (IsS81.ge HI109.out) | refine below_set ?_ GE108.out | refine below_set ?_ GE110.out) | exact HB.out)⟩⟩
        · rw [if_neg c11] at H
          have c11b0 : decide (0 < x6_1) = false := decide_eq_false c11
          clear c11
          (first | rw [c11b0] | (simp only [i64_w, i32_w]; rw [c11b0]) | skip)
          have H' := Aside0.mk H
          clear H
          go_wp2
          go_meet
          case rel => exact ⟨_, (false), (by first | rfl | (simp; done) | (simp [*]; done)), H', ⟨by have := HK1.out; first | omega | exact Nat.le_refl _⟩, ⟨by (with_reducible repeat (first | apply Kd.R_alloc | apply Kd.R_drewN | apply Kd.R_drew)); exact HO_111000.out⟩, ⟨by (with_reducible repeat (first | refine blk_drewN ?_ _ | refine blk_drew ?_ | refine blk_alloc ?_ _)); exact BK108.out⟩, ⟨by (with_reducible repeat (first | refine blk_drewN ?_ _ | refine blk_drew ?_ | refine blk_alloc ?_ _)); exact BK110.out⟩, ⟨by repeat (first | (with_reducible first | exact HI109.out | apply IsS81.alloc | apply IsS81.drewN | apply IsS81.drew | apply IsS81.set_0 | apply IsS81.set_1 | apply IsS81.set_2 | refine IsS81.far ?_ NB109_108.out _ | refine IsS81.far ?_ NB109_110.out _) | exact HI109.out)⟩, ⟨by repeat (first | (with_reducible first | exact HB.out | apply below_alloc | apply pw_below_drewN | apply below_drew1 | refine below_set ?_ (IsS81.ge HI109.out) | refine below_set ?_ GE108.out | refine below_set ?_ GE110.out) | exact HB.out)⟩⟩
      case rest =>
        clear HC10
        try clear c1
        try clear c2
        try clear p2
        try clear c6
        try clear c7
        try clear c11
        try clear c11b0
        try clear hcz12_0
        try clear hcz12_1
        try clear hcz12_2
        try clear hcz8_0
        try clear hfz12_0
        try clear hfz12_1
        try clear hfz12_2
        try clear hfz8_0
        try clear p2
        obtain ⟨kq, x21_9, rfl, HA, HJ9, HO_111000, BK108, BK110, HI109, HB⟩ := hcut
        cases kq with
        | zero => exact absurd HA.out (by simp [spec_DecodeHeap.j1])
        | succ kj9 =>
          have H := HA.out
          clear HA
          simp only [spec_DecodeHeap.j1] at H
          by_cases c13 : x21_9 = true
          · subst c13
            have H1 : ((spec_l02Reader_byte.f x110000_1 x110001_1 x110002_1).bind fun bt115 => ((spec_l02Reader_take.f bt115.2.1 bt115.2.2.1 bt115.2.2.2 bt115.1).bind fun bt119 => (if x111000_1.length < 8796093022208 then (spec_DecodeHeap.l0 kj9 a0 (wrap64 (x6_1 - 1)) bt119.2.1 bt119.2.2.1 bt119.2.2.2 (x111000_1 ++ [bt119.1])) else (none)))) = some (r1, r2) := by rw [if_pos rfl] at H; exact H
            clear H
            have H := H1
            clear H1
            replace H := Option.bind_eq_some_iff.mp H
            obtain ⟨⟨t115, t116, t117, t118⟩, A140, H⟩ := H
            replace H : ((spec_l02Reader_take.f t116 t117 t118 t115).bind fun bt119 => (if x111000_1.length < 8796093022208 then (spec_DecodeHeap.l0 kj9 a0 (wrap64 (x6_1 - 1)) bt119.2.1 bt119.2.2.1 bt119.2.2.2 (x111000_1 ++ [bt119.1])) else (none))) = some (r1, r2) := H
            have A14 := Aside0.mk A140
            clear A140
            replace H := Option.bind_eq_some_iff.mp H
            obtain ⟨⟨t119, t120, t121, t122⟩, A150, H⟩ := H
            replace H : (if x111000_1.length < 8796093022208 then (spec_DecodeHeap.l0 kj9 a0 (wrap64 (x6_1 - 1)) t120 t121 t122 (x111000_1 ++ [t119])) else (none)) = some (r1, r2) := H
            have A15 := Aside0.mk A150
            clear A150
            by_cases c16 : x111000_1.length < 8796093022208
            · rw [if_pos c16] at H
              have LMc16 := Aside0.mk c16
              clear c16
              obtain ⟨y123, hy123⟩ : ∃ y_ : List ByteArray, y_ = (x111000_1 ++ [t119]) := ⟨_, rfl⟩
              replace H : (spec_DecodeHeap.l0 kj9 a0 (wrap64 (x6_1 - 1)) t120 t121 t122 y123) = some (r1, r2) := by first | (rw [hy123]; with_reducible exact H) | (have H2_ := (Option.bind_some _ _).symm.trans H; rw [hy123]; with_reducible exact H2_) | (have H2_ := (Option.bind_some _ _).symm.trans H; with_reducible exact H2_) | with_reducible exact H | (rw [hy123]; exact H) | exact H
              have Ny123 := Aside0.mk hy123
              clear hy123
              have H' := Aside0.mk H
              clear H
              try go_wp2
              have n0_ := Aside0.mk (Kd.R_drew HO_111000.out)
              have n1_ := Aside0.mk (blk_drew BK108.out)
              have n2_ := Aside0.mk (blk_drew BK110.out)
              have n3_ := Aside0.mk (IsS81.drew HI109.out)
              have n4_ := Aside0.mk (below_drew1 HB.out)
              clear HO_111000
              clear BK108
              clear BK110
              clear HI109
              clear HB
              have HO_111000 := n0_
              have BK108 := n1_
              have BK110 := n2_
              have HI109 := n3_
              have HB := n4_
              clear n0_ n1_ n2_ n3_ n4_
              refine start_ (n := 10) (S := fun w' => w'.cell? ⟨gb110, 0, none⟩ = some (u111000)) (ds := [9]) #[false, false, false, false, false, false, false, false, false, false] (by kernel_rfl) rfl rfl ((blk_cell BK110.out 0).trans rfl) (fun hHeld => ?_); refine with_tabW spec_DecodeHeap.tab6 spec_DecodeHeap.bits6 (fun HT_ HW_ => ?_)
              generalize wc.drew = w17 at HO_111000 BK108 BK110 HI109 HB hHeld ⊢
              refine pure_ (i := 0) (N := some 24) (v := ?_) (a' := ?_) #[true, false, false, false, false, false, false, false, false, false] rfl rfl (any_of HT_.out (by kernel_rfl)) (fun _ _ _ h => h) (Or.inl ⟨by rfl, ?_⟩) ?_ ?_
              rotate_left
              · intro w'
                go_simp
                with_reducible rfl
              rotate_left
              · simp only [Act.put, List.setIfInBounds_toArray, List.set_cons_zero, List.set_cons_succ, i64_w, i32_w]
                rfl
              refine pure_ (i := 2) (N := some 26) (v := ?_) (a' := ?_) #[true, false, true, false, false, false, false, false, false, false] rfl rfl (any_of HT_.out (by kernel_rfl)) (fun _ _ _ h => h) (Or.inl ⟨by rfl, ?_⟩) ?_ ?_
              rotate_left
              · intro w'
                go_simp
                with_reducible rfl
              rotate_left
              · simp only [Act.put, List.setIfInBounds_toArray, List.set_cons_zero, List.set_cons_succ, i64_w, i32_w]
                rfl
              refine pure_ (i := 3) (N := some 27) (v := ?_) (a' := ?_) #[true, false, true, true, false, false, false, false, false, false] rfl rfl (any_of HT_.out (by kernel_rfl)) (fun _ _ _ h => h) (Or.inl ⟨by rfl, ?_⟩) ?_ ?_
              rotate_left
              · intro w'
                go_simp
                with_reducible rfl
              rotate_left
              · simp only [Act.put, List.setIfInBounds_toArray, List.set_cons_zero, List.set_cons_succ, i64_w, i32_w]
                rfl
              refine take_ (i := 1) (N := some 25) (v := ?_) (a' := ?_) #[true, true, true, true, false, false, false, false, false, false] rfl rfl (take_ofW HT_.out HW_.out (by kernel_rfl)) (fun _ _ _ h => h) (Or.inl ⟨by rfl, ?_⟩) hHeld ?_ ?_
              rotate_left
              · intro w' s0
                go_simp
                with_reducible rfl
              rotate_left
              · simp only [Act.put, List.setIfInBounds_toArray, List.set_cons_zero, List.set_cons_succ, i64_w, i32_w]
                rfl
              refine one_ (i := 4) (N := some 28) #[true, true, true, true, true, false, false, false, false, false] rfl rfl (one_of HT_.out (by kernel_rfl)) (by decide) (fun K hK => ?_)
              refine goes_ Try.func65 (by kernel_rfl) rfl #[.pointer (some ⟨gb109, 0, none⟩)] (by rfl) rfl rfl (by (try simp only [List.map_toArray, List.map_cons, List.map_nil]); first | done | rfl | (simp only [List.length_drop, List.length_take]; rfl)) ?_
              with_reducible refine (spec_l02Reader_byte.calls gb109 x110000_1 x110001_1 x110002_1 t115 t116 t117 t118 w _ ?side1 ?side2 A14.out).mono ?_
              (case side1 => repeat (first | (with_reducible first | exact HI109.out | apply IsS81.alloc | apply IsS81.drewN | apply IsS81.drew | apply IsS81.set_0 | apply IsS81.set_1 | apply IsS81.set_2 | refine IsS81.far ?_ NB109_108.out _ | refine IsS81.far ?_ NB109_110.out _) | exact HI109.out))
              (case side2 => repeat (first | (with_reducible first | exact HB.out | apply below_alloc | apply pw_below_drewN | apply below_drew1 | refine below_set ?_ (IsS81.ge HI109.out) | refine below_set ?_ GE108.out | refine below_set ?_ GE110.out) | exact HB.out))
              rintro e w18 ⟨rfl, hi, hb, hk⟩
              refine ⟨_, rfl, ?_⟩
              have n0_ := Aside0.mk (Kd.R_mono (Kd.R_keep (IsS81.apart (show IsS81 w _ gb109 x110000_1 x110001_1 x110002_1 from by repeat (first | (with_reducible first | exact HI109.out | apply IsS81.alloc | apply IsS81.drewN | apply IsS81.drew | apply IsS81.set_0 | apply IsS81.set_1 | apply IsS81.set_2 | refine IsS81.far ?_ NB109_108.out _ | refine IsS81.far ?_ NB109_110.out _) | exact HI109.out)) (by (with_reducible repeat (first | apply Kd.R_alloc | apply Kd.R_drewN | apply Kd.R_drew)); exact HO_111000.out) (by decide)) hk (fun _ h => h.2)) (fun _ h => h.1))
              have n1_ := Aside0.mk (KeepBut.blk hk (g' := gb108) (o := .cells #[.slice none 0 0] 43 (0, 0)) (by (with_reducible repeat (first | refine blk_drewN ?_ _ | refine blk_drew ?_ | refine blk_alloc ?_ _)); exact BK108.out) NB108_109.out (by simp))
              have n2_ := Aside0.mk (KeepBut.blk hk (g' := gb110) (o := .cells #[u111000] 43 (0, 0)) (by (with_reducible repeat (first | refine blk_drewN ?_ _ | refine blk_drew ?_ | refine blk_alloc ?_ _)); exact BK110.out) NB110_109.out (by simp))
              have n3_ := Aside0.mk (hb)
              have n4_ := Aside0.mk (hi)
              clear HO_111000
              clear BK108
              clear BK110
              clear HB
              clear HI109
              have HO_111000 := n0_
              have BK108 := n1_
              have BK110 := n2_
              have HB := n3_
              have HI109 := n4_
              clear n0_ n1_ n2_ n3_ n4_
              (try clear hb)
              (try clear hb2)
              (try clear hk)
              (try clear hi)
              refine hK.out _ _ ((blk_cell BK110.out 0).trans rfl) (fun hHeld => ?_)
              clear hK K
              refine norm_ (a' := ?_) ?_ ?_
              rotate_left
              · show Act.put _ (some 28) _ = _
                simp only [Act.put, List.setIfInBounds_toArray, List.set_cons_zero, List.set_cons_succ, i64_w, i32_w]
                rfl
              refine one_ (i := 5) (N := some 29) #[true, true, true, true, true, true, false, false, false, false] rfl rfl (one_of HT_.out (by kernel_rfl)) (by decide) (fun K hK => ?_)
              refine goes_ Try.func66 (by kernel_rfl) rfl #[.pointer (some ⟨gb109, 0, none⟩), .int .i64 t115] (by rfl) rfl rfl (by (try simp only [List.map_toArray, List.map_cons, List.map_nil]); first | done | rfl | (simp only [List.length_drop, List.length_take]; rfl)) ?_
              with_reducible refine (spec_l02Reader_take.calls gb109 t116 t117 t118 t115 t119 t120 t121 t122 w _ ?side1 ?side2 A15.out).mono ?_
              (case side1 => repeat (first | (with_reducible first | exact HI109.out | apply IsS81.alloc | apply IsS81.drewN | apply IsS81.drew | apply IsS81.set_0 | apply IsS81.set_1 | apply IsS81.set_2 | refine IsS81.far ?_ NB109_108.out _ | refine IsS81.far ?_ NB109_110.out _) | exact HI109.out))
              (case side2 => repeat (first | (with_reducible first | exact HB.out | apply below_alloc | apply pw_below_drewN | apply below_drew1 | refine below_set ?_ (IsS81.ge HI109.out) | refine below_set ?_ GE108.out | refine below_set ?_ GE110.out) | exact HB.out))
              rintro e w19 ⟨rfl, hi, hb, hk⟩
              refine ⟨_, rfl, ?_⟩
              have n0_ := Aside0.mk (Kd.R_mono (Kd.R_keep (IsS81.apart (show IsS81 w _ gb109 t116 t117 t118 from by repeat (first | (with_reducible first | exact HI109.out | apply IsS81.alloc | apply IsS81.drewN | apply IsS81.drew | apply IsS81.set_0 | apply IsS81.set_1 | apply IsS81.set_2 | refine IsS81.far ?_ NB109_108.out _ | refine IsS81.far ?_ NB109_110.out _) | exact HI109.out)) (by (with_reducible repeat (first | apply Kd.R_alloc | apply Kd.R_drewN | apply Kd.R_drew)); exact HO_111000.out) (by decide)) hk (fun _ h => h.2)) (fun _ h => h.1))
              have n1_ := Aside0.mk (KeepBut.blk hk (g' := gb108) (o := .cells #[.slice none 0 0] 43 (0, 0)) (by (with_reducible repeat (first | refine blk_drewN ?_ _ | refine blk_drew ?_ | refine blk_alloc ?_ _)); exact BK108.out) NB108_109.out (by simp))
              have n2_ := Aside0.mk (KeepBut.blk hk (g' := gb110) (o := .cells #[u111000] 43 (0, 0)) (by (with_reducible repeat (first | refine blk_drewN ?_ _ | refine blk_drew ?_ | refine blk_alloc ?_ _)); exact BK110.out) NB110_109.out (by simp))
              have n3_ := Aside0.mk (hb)
              have n4_ := Aside0.mk (hi)
              clear HO_111000
              clear BK108
              clear BK110
              clear HB
              clear HI109
              have HO_111000 := n0_
              have BK108 := n1_
              have BK110 := n2_
              have HB := n3_
              have HI109 := n4_
              clear n0_ n1_ n2_ n3_ n4_
              (try clear hb)
              (try clear hb2)
              (try clear hk)
              (try clear hi)
              refine hK.out _ _ ((blk_cell BK110.out 0).trans rfl) (fun hHeld => ?_)
              clear hK K
              refine norm_ (a' := ?_) ?_ ?_
              rotate_left
              · show Act.put _ (some 29) _ = _
                simp only [Act.put, List.setIfInBounds_toArray, List.set_cons_zero, List.set_cons_succ, i64_w, i32_w]
                rfl
              refine one_ (i := 6) (N := some 30) #[true, true, true, true, true, true, true, false, false, false] rfl rfl (one_of HT_.out (by kernel_rfl)) (by decide) (fun K hK => ?_)
              refine value_ (w1 := ?_) (v := ?_) (by rfl) rfl ?_ ?_
              rotate_left 2
              · go_simp
                constructor
                · rfl
                · rfl
              refine hK.out _ _ ((blk_cell (blk_alloc BK110.out _) 0).trans rfl) (fun hHeld => ?_)
              clear hK K
              refine norm_ (a' := ?_) ?_ ?_
              rotate_left
              · show Act.put _ (some 30) _ = _
                simp only [Act.put, List.setIfInBounds_toArray, List.set_cons_zero, List.set_cons_succ, i64_w, i32_w]
                rfl
              refine one_ (i := 7) (N := some 31) #[true, true, true, true, true, true, true, true, false, false] rfl rfl (one_of HT_.out (by kernel_rfl)) (by decide) (fun K hK => ?_)
              refine Kd.R_append_step Kd.string (w0 := w) w.heap.size (by rfl) (.tmp 25) (.tmp 30) 41 9 (.string ⟨#[]⟩) 16 rfl Try.underlying41 info9 rfl (by decide) (by omega) u111000 x111000_1 t119 [.string t119] (fun _ => True) (fun _ => False) rfl rfl ?aP (fun _ hk => hk.elim) ?aF ?aO ?aB ?aS ?aL ?_
              (case aP => exact rfl)
              (case aB => exact (by repeat (first | (with_reducible first | exact HB.out | apply below_alloc | apply pw_below_drewN | apply below_drew1 | refine below_set ?_ (IsS81.ge HI109.out) | refine below_set ?_ GE108.out | refine below_set ?_ GE110.out) | exact HB.out)))
              (case aF => exact (fun _ _ => trivial))
              (case aO => exact (by (with_reducible repeat (first | apply Kd.R_alloc | apply Kd.R_drewN | apply Kd.R_drew)); exact HO_111000.out))
              (case aS => exact (below_size (by repeat (first | (with_reducible first | exact HB.out | apply below_alloc | apply pw_below_drewN | apply below_drew1 | refine below_set ?_ (IsS81.ge HI109.out) | refine below_set ?_ GE108.out | refine below_set ?_ GE110.out) | exact HB.out))))
              (case aL => have := LMc16.out; omega)
              intro v124 w20 ho hb hg hat
              rw [← Ny123.out] at ho
              have n0_ := Aside0.mk (blk_grown (g := gb108) (o := .cells #[.slice none 0 0] 43 (0, 0)) (by (with_reducible repeat (first | refine blk_drewN ?_ _ | refine blk_drew ?_ | refine blk_alloc ?_ _)); exact BK108.out) hg (Kd.R_ne HO_111000.out BK108.out (by decide)))
              have n1_ := Aside0.mk (blk_grown (g := gb110) (o := .cells #[u111000] 43 (0, 0)) (by (with_reducible repeat (first | refine blk_drewN ?_ _ | refine blk_drew ?_ | refine blk_alloc ?_ _)); exact BK110.out) hg (Kd.R_ne HO_111000.out BK110.out (by decide)))
              have n2_ := Aside0.mk (IsS81.grown (by repeat (first | (with_reducible first | exact HI109.out | apply IsS81.alloc | apply IsS81.drewN | apply IsS81.drew | apply IsS81.set_0 | apply IsS81.set_1 | apply IsS81.set_2 | refine IsS81.far ?_ NB109_108.out _ | refine IsS81.far ?_ NB109_110.out _) | exact HI109.out)) hg (IsS81.own_ne HI109.out HO_111000.out (by decide)))
              have n3_ := Aside0.mk (hb)
              have n4_ := Aside0.mk (ho)
              clear BK108
              clear BK110
              clear HI109
              clear HB
              clear HO_111000
              have BK108 := n0_
              have BK110 := n1_
              have HI109 := n2_
              have HB := n3_
              have HO125 := n4_
              clear n0_ n1_ n2_ n3_ n4_
              clear ho hb hg hat
              obtain ⟨Ao21, co21, eo21⟩ := Kd.R_slice HO125.out
              (first | subst eo21 | (injection eo21 with f1_ f2_ f3_; have f4_ := f1_.symm; have f5_ := f3_.symm; clear f1_ f2_ f3_; subst f4_; subst f5_))
              refine hK.out _ _ ((blk_cell BK110.out 0).trans rfl) (fun hHeld => ?_)
              clear hK K
              refine norm_ (a' := ?_) ?_ ?_
              rotate_left
              · show Act.put _ (some 31) _ = _
                simp only [Act.put, List.setIfInBounds_toArray, List.set_cons_zero, List.set_cons_succ, i64_w, i32_w]
                rfl
              refine pure_ (i := 8) (N := some 32) (v := ?_) (a' := ?_) #[true, true, true, true, true, true, true, true, true, false] rfl rfl (any_of HT_.out (by kernel_rfl)) (fun _ _ _ h => h) (Or.inl ⟨by rfl, ?_⟩) ?_ ?_
              rotate_left
              · intro w'
                go_simp
                with_reducible rfl
              rotate_left
              · simp only [Act.put, List.setIfInBounds_toArray, List.set_cons_zero, List.set_cons_succ, i64_w, i32_w]
                rfl
              refine last_ (i := 9) (N := none) #[true, true, true, true, true, true, true, true, true, true] rfl rfl (one_of HT_.out (by kernel_rfl)) (by decide) (fun K hK => ?_)
              have hs22 : w20.cell? ⟨gb110, 0, none⟩ = some (u111000) := (blk_cell BK110.out 0).trans rfl
              have hfs22 := blk_frozen BK110.out 0
              have hns22_0 := NB108_110.out
              have hms22_0 := NB110_108.out
              refine skip_ (w1 := ?_) (by rfl) rfl ?_ ?_
              rotate_left
              · go_simp
                rfl
              refine hK.out _ _ ?_
              clear hK K
              refine done_ (done_of HT_.out (by kernel_rfl)) ?_
              try go_wp2
              go_roundg kj9
              case measure => have := HK1.out; have := HJ9.out; omega
              case rel => exact ⟨(wrap64 (x6_1 - 1)), (t120), (t121), (t122), (y123), (.slice Ao21 y123.length co21), (by first | rfl | (simp; done) | (simp [*]; done)), H', ⟨by have := HK1.out; have := HJ9.out; omega⟩, ⟨by (with_reducible repeat (first | apply Kd.R_alloc | apply Kd.R_drewN | apply Kd.R_drew)); exact Kd.R_mono (Kd.R_far (p := ⟨gb110, 0, none⟩) (Kd.R_types HO125.out BK110.out (by decide)) (fun _ hk => hk.2) (.slice Ao21 y123.length co21)) (fun _ hk => trivial)⟩, ⟨by (with_reducible repeat (first | refine blk_drewN ?_ _ | refine blk_drew ?_ | refine blk_alloc ?_ _)); refine blk_far ?_ NB108_110.out _; (with_reducible repeat (first | refine blk_drewN ?_ _ | refine blk_drew ?_ | refine blk_alloc ?_ _)); exact BK108.out⟩, ⟨by (with_reducible repeat (first | refine blk_drewN ?_ _ | refine blk_drew ?_ | refine blk_alloc ?_ _)); refine blk_put (cs := #[u111000]) ?_ 0 _ rfl; (with_reducible repeat (first | refine blk_drewN ?_ _ | refine blk_drew ?_ | refine blk_alloc ?_ _)); exact BK110.out⟩, ⟨by repeat (first | (with_reducible first | exact HI109.out | apply IsS81.alloc | apply IsS81.drewN | apply IsS81.drew | apply IsS81.set_0 | apply IsS81.set_1 | apply IsS81.set_2 | refine IsS81.far ?_ NB109_108.out _ | refine IsS81.far ?_ NB109_110.out _) | exact HI109.out)⟩, ⟨by repeat (first | (with_reducible first | exact HB.out | apply below_alloc | apply pw_below_drewN | apply below_drew1 | refine below_set ?_ (IsS81.ge HI109.out) | refine below_set ?_ GE108.out | refine below_set ?_ GE110.out) | exact HB.out)⟩⟩
            · rw [if_neg c16] at H
              exact absurd H (by simp)
          · replace c13 := Bool.eq_false_iff.mpr c13
            subst c13
            have H1 : (if x110002_1 = true then (some (([] : List ByteArray), false)) else (if x110001_1 = (a0.size : Int) then ((spec_l16Ok.f kj9 x111000_1).bind fun t126 => (if t126 = true then (some (x111000_1, true)) else (some (([] : List ByteArray), false)))) else (some (([] : List ByteArray), false)))) = some (r1, r2) := by rw [if_neg (show ¬ (false = true) by decide)] at H; exact H
            clear H
            have H := H1
            clear H1
            by_cases c23 : x110002_1 = true
            · subst c23
              have H1 : (some (([] : List ByteArray), false)) = some (r1, r2) := by rw [if_pos rfl] at H; exact H
              clear H
              have H := H1
              clear H1
              simp only [Option.some.injEq, Prod.mk.injEq] at H
              obtain ⟨rfl, rfl⟩ := H
              obtain ⟨HGz24, hgz24⟩ := HI109.out
              have hcz24_0 := cellS81_0 HGz24
              have hcz24_1 := cellS81_1 HGz24
              have hcz24_2 := cellS81_2 HGz24
              have hfz24_0 := blk_frozen HGz24 0
              have hfz24_1 := blk_frozen HGz24 1
              have hfz24_2 := blk_frozen HGz24 2
              clear HGz24 hgz24
              have hnb25 := NB108_110.out
              have hnc25 := NB110_108.out
              have hnb26 := NB108_109.out
              have hnc26 := NB109_108.out
              have hcz27_0 : wc.cell? ⟨gb108, 0, none⟩ = some (.slice none 0 0) := (blk_cell BK108.out 0).trans rfl
              have hfz27_0 := blk_frozen BK108.out 0
              go_wp2
              refine bodyPost_ret (results_ct rfl _ _ gb108 43 #[.slice none 0 0] (0, 0) _ rfl (by (with_reducible repeat (first | refine blk_drewN ?_ _ | refine blk_drew ?_ | refine blk_alloc ?_ _)); refine blk_put (cs := #[.slice none 0 0]) ?_ 0 _ rfl; (with_reducible repeat (first | refine blk_drewN ?_ _ | refine blk_drew ?_ | refine blk_alloc ?_ _)); exact BK108.out) Try.underlying43 rfl (by kernel_rfl)) rfl ?_
              exact ⟨_, by first | rfl | (simp [errW_none, errW_some] <;> rfl) | (simp [*, errW_none, errW_some] <;> rfl), by first | exact Kd.R_nil _ _ _ _ _ | exact Kd.N_nil _ _ _ _ _ | exact Kd.V_nil _ _ _ _ _ | exact Kd.Q_nil _ _ _ _ _ | exact Kd.S_nil _ _ _ _ _, by repeat (first | (with_reducible first | exact HB.out | apply below_alloc | apply pw_below_drewN | apply below_drew1 | refine below_set ?_ (IsS81.ge HI109.out) | refine below_set ?_ GE108.out | refine below_set ?_ GE110.out) | exact HB.out)⟩
            · replace c23 := Bool.eq_false_iff.mpr c23
              subst c23
              have H1 : (if x110001_1 = (a0.size : Int) then ((spec_l16Ok.f kj9 x111000_1).bind fun t126 => (if t126 = true then (some (x111000_1, true)) else (some (([] : List ByteArray), false)))) else (some (([] : List ByteArray), false))) = some (r1, r2) := by rw [if_neg (show ¬ (false = true) by decide)] at H; exact H
              clear H
              have H := H1
              clear H1
              by_cases c28 : x110001_1 = (a0.size : Int)
              · rw [if_pos c28] at H
                have c28b0 : (x110001_1 == (a0.size : Int)) = true := beq_iff_eq.mpr c28
                have c28b1 : (x110001_1 != (a0.size : Int)) = false := bne_eq_false_iff_eq.mpr c28
                clear c28
                replace H := Option.bind_eq_some_iff.mp H
                obtain ⟨t126, A290, H⟩ := H
                replace H : (if t126 = true then (some (x111000_1, true)) else (some (([] : List ByteArray), false))) = some (r1, r2) := H
                have A29 := Aside0.mk A290
                clear A290
                by_cases c30 : t126 = true
                · subst c30
                  have H1 : (some (x111000_1, true)) = some (r1, r2) := by rw [if_pos rfl] at H; exact H
                  clear H
                  have H := H1
                  clear H1
                  simp only [Option.some.injEq, Prod.mk.injEq] at H
                  obtain ⟨rfl, rfl⟩ := H
                  obtain ⟨HGz31, hgz31⟩ := HI109.out
                  have hcz31_0 := cellS81_0 HGz31
                  have hcz31_1 := cellS81_1 HGz31
                  have hcz31_2 := cellS81_2 HGz31
                  have hfz31_0 := blk_frozen HGz31 0
                  have hfz31_1 := blk_frozen HGz31 1
                  have hfz31_2 := blk_frozen HGz31 2
                  clear HGz31 hgz31
                  have hnb32 := NB110_108.out
                  have hnc32 := NB108_110.out
                  have hnb33 := NB110_109.out
                  have hnc33 := NB109_110.out
                  have hcz34_0 : wc.cell? ⟨gb110, 0, none⟩ = some (u111000) := (blk_cell BK110.out 0).trans rfl
                  have hfz34_0 := blk_frozen BK110.out 0
                  obtain ⟨Ao35, co35, eo35⟩ := Kd.R_slice HO_111000.out
                  subst eo35
                  go_wp2_with (first | (go_at_call 67; (with_reducible refine (spec_l16Ok.calls kj9 _ _ x111000_1 true _ ?side1 ?side2 A29.out).mono ?_); (case side1 => repeat (first | exact (Kd.R_reads' HO_111000.out).2.2 | (with_reducible refine Kd.C_alloc ?_ _) | (with_reducible refine Kd.C_drewN ?_ _) | (with_reducible refine Kd.C_drew ?_))); (case side2 => exact (Kd.R_reads' HO_111000.out).2.1); rintro e w36 ⟨rfl, hb⟩; have n0_ := Aside0.mk (Kd.R_below (by (with_reducible repeat (first | apply Kd.R_alloc | apply Kd.R_drewN | apply Kd.R_drew)); exact HO_111000.out) hb); have n1_ := Aside0.mk (blk_below (g := gb108) (o := .cells #[.slice none 0 0] 43 (0, 0)) (by (with_reducible repeat (first | refine blk_drewN ?_ _ | refine blk_drew ?_ | refine blk_alloc ?_ _)); exact BK108.out) hb); have n2_ := Aside0.mk (blk_below (g := gb110) (o := .cells #[.slice Ao35 x111000_1.length co35] 43 (0, 0)) (by (with_reducible repeat (first | refine blk_drewN ?_ _ | refine blk_drew ?_ | refine blk_alloc ?_ _)); exact BK110.out) hb); have n3_ := Aside0.mk (IsS81.below (by repeat (first | (with_reducible first | exact HI109.out | apply IsS81.alloc | apply IsS81.drewN | apply IsS81.drew | apply IsS81.set_0 | apply IsS81.set_1 | apply IsS81.set_2 | refine IsS81.far ?_ NB109_108.out _ | refine IsS81.far ?_ NB109_110.out _) | exact HI109.out)) hb); have n4_ := Aside0.mk (below_step (by repeat (first | (with_reducible first | exact HB.out | apply below_alloc | apply pw_below_drewN | apply below_drew1 | refine below_set ?_ (IsS81.ge HI109.out) | refine below_set ?_ GE108.out | refine below_set ?_ GE110.out) | exact HB.out)) hb); clear HO_111000; clear BK108; clear BK110; clear HI109; clear HB; have HO_111000 := n0_; have BK108 := n1_; have BK110 := n2_; have HI109 := n3_; have HB := n4_; clear n0_ n1_ n2_ n3_ n4_; (try clear hb); (try clear hb2); (try clear hk); (try clear hi); have hcz37_0 : w36.cell? ⟨gb110, 0, none⟩ = some (.slice Ao35 x111000_1.length co35) := (blk_cell BK110.out 0).trans rfl; have hfz37_0 := blk_frozen BK110.out 0; have hnb38 := NB108_109.out; have hnc38 := NB109_108.out; have hcz39_0 : w36.cell? ⟨gb108, 0, none⟩ = some (.slice none 0 0) := (blk_cell BK108.out 0).trans rfl; have hfz39_0 := blk_frozen BK108.out 0))
                  refine bodyPost_ret (results_ct rfl _ _ gb108 43 #[.slice Ao35 x111000_1.length co35] (0, 0) _ rfl (by (with_reducible repeat (first | refine blk_drewN ?_ _ | refine blk_drew ?_ | refine blk_alloc ?_ _)); refine blk_put (cs := #[.slice none 0 0]) ?_ 0 _ rfl; (with_reducible repeat (first | refine blk_drewN ?_ _ | refine blk_drew ?_ | refine blk_alloc ?_ _)); exact BK108.out) Try.underlying43 rfl (by kernel_rfl)) rfl ?_
                  exact ⟨_, by first | rfl | (simp [errW_none, errW_some] <;> rfl) | (simp [*, errW_none, errW_some] <;> rfl), by (with_reducible repeat (first | apply Kd.R_alloc | apply Kd.R_drewN | apply Kd.R_drew)); exact Kd.R_mono (Kd.R_far (p := ⟨gb108, 0, none⟩) (Kd.R_types HO_111000.out BK108.out (by decide)) (fun _ hk => hk.2) (.slice Ao35 x111000_1.length co35)) (fun _ hk => trivial), by repeat (first | (with_reducible first | exact HB.out | apply below_alloc | apply pw_below_drewN | apply below_drew1 | refine below_set ?_ (IsS81.ge HI109.out) | refine below_set ?_ GE108.out | refine below_set ?_ GE110.out) | exact HB.out)⟩
                · replace c30 := Bool.eq_false_iff.mpr c30
                  subst c30
                  have H1 : (some (([] : List ByteArray), false)) = some (r1, r2) := by rw [if_neg (show ¬ (false = true) by decide)] at H; exact H
                  clear H
                  have H := H1
                  clear H1
                  simp only [Option.some.injEq, Prod.mk.injEq] at H
                  obtain ⟨rfl, rfl⟩ := H
                  obtain ⟨HGz40, hgz40⟩ := HI109.out
                  have hcz40_0 := cellS81_0 HGz40
                  have hcz40_1 := cellS81_1 HGz40
                  have hcz40_2 := cellS81_2 HGz40
                  have hfz40_0 := blk_frozen HGz40 0
                  have hfz40_1 := blk_frozen HGz40 1
                  have hfz40_2 := blk_frozen HGz40 2
                  clear HGz40 hgz40
                  have hnb41 := NB110_108.out
                  have hnc41 := NB108_110.out
                  have hnb42 := NB110_109.out
                  have hnc42 := NB109_110.out
                  have hcz43_0 : wc.cell? ⟨gb110, 0, none⟩ = some (u111000) := (blk_cell BK110.out 0).trans rfl
                  have hfz43_0 := blk_frozen BK110.out 0
                  obtain ⟨Ao44, co44, eo44⟩ := Kd.R_slice HO_111000.out
                  subst eo44
                  go_wp2_with (first | (go_at_call 67; (with_reducible refine (spec_l16Ok.calls kj9 _ _ x111000_1 false _ ?side1 ?side2 A29.out).mono ?_); (case side1 => repeat (first | exact (Kd.R_reads' HO_111000.out).2.2 | (with_reducible refine Kd.C_alloc ?_ _) | (with_reducible refine Kd.C_drewN ?_ _) | (with_reducible refine Kd.C_drew ?_))); (case side2 => exact (Kd.R_reads' HO_111000.out).2.1); rintro e w45 ⟨rfl, hb⟩; have n0_ := Aside0.mk (Kd.R_below (by (with_reducible repeat (first | apply Kd.R_alloc | apply Kd.R_drewN | apply Kd.R_drew)); exact HO_111000.out) hb); have n1_ := Aside0.mk (blk_below (g := gb108) (o := .cells #[.slice none 0 0] 43 (0, 0)) (by (with_reducible repeat (first | refine blk_drewN ?_ _ | refine blk_drew ?_ | refine blk_alloc ?_ _)); exact BK108.out) hb); have n2_ := Aside0.mk (blk_below (g := gb110) (o := .cells #[.slice Ao44 x111000_1.length co44] 43 (0, 0)) (by (with_reducible repeat (first | refine blk_drewN ?_ _ | refine blk_drew ?_ | refine blk_alloc ?_ _)); exact BK110.out) hb); have n3_ := Aside0.mk (IsS81.below (by repeat (first | (with_reducible first | exact HI109.out | apply IsS81.alloc | apply IsS81.drewN | apply IsS81.drew | apply IsS81.set_0 | apply IsS81.set_1 | apply IsS81.set_2 | refine IsS81.far ?_ NB109_108.out _ | refine IsS81.far ?_ NB109_110.out _) | exact HI109.out)) hb); have n4_ := Aside0.mk (below_step (by repeat (first | (with_reducible first | exact HB.out | apply below_alloc | apply pw_below_drewN | apply below_drew1 | refine below_set ?_ (IsS81.ge HI109.out) | refine below_set ?_ GE108.out | refine below_set ?_ GE110.out) | exact HB.out)) hb); clear HO_111000; clear BK108; clear BK110; clear HI109; clear HB; have HO_111000 := n0_; have BK108 := n1_; have BK110 := n2_; have HI109 := n3_; have HB := n4_; clear n0_ n1_ n2_ n3_ n4_; (try clear hb); (try clear hb2); (try clear hk); (try clear hi); have hnb46 := NB108_109.out; have hnc46 := NB109_108.out; have hcz47_0 : w45.cell? ⟨gb108, 0, none⟩ = some (.slice none 0 0) := (blk_cell BK108.out 0).trans rfl; have hfz47_0 := blk_frozen BK108.out 0))
                  refine bodyPost_ret (results_ct rfl _ _ gb108 43 #[.slice none 0 0] (0, 0) _ rfl (by (with_reducible repeat (first | refine blk_drewN ?_ _ | refine blk_drew ?_ | refine blk_alloc ?_ _)); refine blk_put (cs := #[.slice none 0 0]) ?_ 0 _ rfl; (with_reducible repeat (first | refine blk_drewN ?_ _ | refine blk_drew ?_ | refine blk_alloc ?_ _)); exact BK108.out) Try.underlying43 rfl (by kernel_rfl)) rfl ?_
                  exact ⟨_, by first | rfl | (simp [errW_none, errW_some] <;> rfl) | (simp [*, errW_none, errW_some] <;> rfl), by first | exact Kd.R_nil _ _ _ _ _ | exact Kd.N_nil _ _ _ _ _ | exact Kd.V_nil _ _ _ _ _ | exact Kd.Q_nil _ _ _ _ _ | exact Kd.S_nil _ _ _ _ _, by repeat (first | (with_reducible first | exact HB.out | apply below_alloc | apply pw_below_drewN | apply below_drew1 | refine below_set ?_ (IsS81.ge HI109.out) | refine below_set ?_ GE108.out | refine below_set ?_ GE110.out) | exact HB.out)⟩
              · rw [if_neg c28] at H
                have c28b0 : (x110001_1 == (a0.size : Int)) = false := beq_eq_false_iff_ne.mpr c28
                have c28b1 : (x110001_1 != (a0.size : Int)) = true := bne_iff_ne.mpr c28
                simp only [Option.some.injEq, Prod.mk.injEq] at H
                obtain ⟨rfl, rfl⟩ := H
                obtain ⟨HGz48, hgz48⟩ := HI109.out
                have hcz48_0 := cellS81_0 HGz48
                have hcz48_1 := cellS81_1 HGz48
                have hcz48_2 := cellS81_2 HGz48
                have hfz48_0 := blk_frozen HGz48 0
                have hfz48_1 := blk_frozen HGz48 1
                have hfz48_2 := blk_frozen HGz48 2
                clear HGz48 hgz48
                have hnb49 := NB108_110.out
                have hnc49 := NB110_108.out
                have hnb50 := NB108_109.out
                have hnc50 := NB109_108.out
                have hcz51_0 : wc.cell? ⟨gb108, 0, none⟩ = some (.slice none 0 0) := (blk_cell BK108.out 0).trans rfl
                have hfz51_0 := blk_frozen BK108.out 0
                go_wp2
                refine bodyPost_ret (results_ct rfl _ _ gb108 43 #[.slice none 0 0] (0, 0) _ rfl (by (with_reducible repeat (first | refine blk_drewN ?_ _ | refine blk_drew ?_ | refine blk_alloc ?_ _)); refine blk_put (cs := #[.slice none 0 0]) ?_ 0 _ rfl; (with_reducible repeat (first | refine blk_drewN ?_ _ | refine blk_drew ?_ | refine blk_alloc ?_ _)); exact BK108.out) Try.underlying43 rfl (by kernel_rfl)) rfl ?_
                exact ⟨_, by first | rfl | (simp [errW_none, errW_some] <;> rfl) | (simp [*, errW_none, errW_some] <;> rfl), by first | exact Kd.R_nil _ _ _ _ _ | exact Kd.N_nil _ _ _ _ _ | exact Kd.V_nil _ _ _ _ _ | exact Kd.Q_nil _ _ _ _ _ | exact Kd.S_nil _ _ _ _ _, by repeat (first | (with_reducible first | exact HB.out | apply below_alloc | apply pw_below_drewN | apply below_drew1 | refine below_set ?_ (IsS81.ge HI109.out) | refine below_set ?_ GE108.out | refine below_set ?_ GE110.out) | exact HB.out)⟩

end Go.Proofs.Ytlcbbiiohhplfaa.PFnExactDecodeHeap
