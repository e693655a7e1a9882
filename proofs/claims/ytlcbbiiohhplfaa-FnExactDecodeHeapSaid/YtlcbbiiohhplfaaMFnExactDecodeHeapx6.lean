/- Laid by a program of this session (mend.py) out of the text that print.sh wrote for this claim: renamed, and mended where it fell in Lean. -/
import Derived.Test.YtlcbbiiohhplfaaMFnExactDecodeHeapx0
import Derived.Test.YtlcbbiiohhplfaaMFnExactDecodeHeapx2
import Derived.Test.YtlcbbiiohhplfaaMFnExactDecodeHeapx5
namespace Go.Proofs.Ytlcbbiiohhplfaa.PFnExactDecodeHeap
open Go.RowKit Go.Proofs.YtlcbbiiohhplfaaW.PrintWords Go.Proofs.YtlcbbiiohhplfaaW.PrintLast Go.Proofs.YtlcbbiiohhplfaaW.PrintMore
attribute [local go_sem] max2_int min2_int max_two min_two max_three min_three max_four min_four   -- for this text's walks alone
set_option linter.unusedVariables false
set_option linter.unusedSimpArgs false

/-! ### laws_heldStringS: function 73 -/
def laws_heldStringS.l0 : Nat → List ByteArray → Int → Int → Option (Int)
  | 0, _, _, _ => none
  | k + 1, x0, x1, x5 => if x5 < (x0.length : Int) then (if 0 ≤ x5 then ((laws_markText.f k x1).bind fun t178 => (if (rdOf ByteArray.empty x0 x5).toList = t178.toList then (laws_heldStringS.l0 k x0 (wrap64 (x1 + 1)) (wrap64 (x5 + 1))) else (some (-1)))) else (none)) else (some x1)
def laws_heldStringS.f (k : Nat) (l0 : List ByteArray) (a1 : Int) : Option (Int) := laws_heldStringS.l0 k l0 a1 0
theorem laws_heldStringS.mono_l : ∀ k, (∀ y0 y1 y2, LeO (laws_heldStringS.l0 k y0 y1 y2) (laws_heldStringS.l0 (k + 1) y0 y1 y2))
  | 0 => fun _ _ _ r h => by simp [laws_heldStringS.l0] at h
  | k + 1 => by
    have ih0 := laws_heldStringS.mono_l k
    · intro y0 y1 y2
      unfold laws_heldStringS.l0
      repeat' first
      | (with_reducible exact ih0 _ _ _)
      | (with_reducible exact laws_markText.mono _ _)
      | (with_reducible exact LeO.refl _)
      | (with_reducible exact LeO.none _)
      | (with_reducible refine LeO.ite ?_ ?_)
      | (with_reducible refine LeO.bind ?_ (fun _ => ?_))
      | exact ih0 _ _ _
      | exact laws_markText.mono _ _
      | exact LeO.none _
      | refine LeO.ite ?_ ?_
      | refine LeO.bind ?_ (fun _ => ?_)
theorem laws_heldStringS.mono : ∀ a0 a1 k, LeO (laws_heldStringS.f k a0 a1) (laws_heldStringS.f (k + 1) a0 a1) := by
  intro a0 a1 k
  have ih0 := laws_heldStringS.mono_l k
  unfold laws_heldStringS.f
  repeat' first
      | (with_reducible exact ih0 _ _ _)
      | (with_reducible exact laws_markText.mono _ _)
      | (with_reducible exact LeO.refl _)
      | (with_reducible exact LeO.none _)
      | (with_reducible refine LeO.ite ?_ ?_)
      | (with_reducible refine LeO.bind ?_ (fun _ => ?_))
      | exact ih0 _ _ _
      | exact laws_markText.mono _ _
      | exact LeO.none _
      | refine LeO.ite ?_ ?_
      | refine LeO.bind ?_ (fun _ => ?_)
set_option maxHeartbeats 8000000 in
set_option maxRecDepth 100000 in
theorem laws_heldStringS.calls (k : Nat) (A0 : Option Addr) (c0 : Nat) (l0 : List ByteArray) (a1 : Int) (r : Int) (w : World) (hr0 : Kd.C Kd.string w A0 l0.length l0) (hc0 : l0.length ≤ c0) (h : laws_heldStringS.f k l0 a1 = some r) :
    Calls Try.prog 73 #[.slice A0 l0.length c0, .int .i64 a1] w fun e w' => e = .returned (.int .i64 r) ∧ Below w.heap.size w w' := by
  have HR0 := Aside0.mk hr0
  have HC0 := Aside0.mk hc0
  clear hr0 hc0
  have HB := Aside0.mk (Below.refl w.heap.size w)
  have H : (laws_heldStringS.l0 k l0 a1 0) = some r := h
  clear h
  have H' := Aside0.mk H
  clear H
  go_enter Try.func73, Try.ntmps73
  go_wp2
  go_loopg [1, 5] k (fun kq v1 v5 w' => ∃ (x1_1 : Int) (x5_1 : Int), v1 = .int .i64 x1_1 ∧ v5 = .int .i64 x5_1 ∧ Aside0 (laws_heldStringS.l0 kq l0 x1_1 x5_1 = some r) ∧ Aside0 (kq ≤ k) ∧ Aside0 (Below w.heap.size w w'))
  case atStart => exact ⟨(a1), (0), (by first | rfl | (simp; done) | (simp [*]; done)), (by first | rfl | (simp; done) | (simp [*]; done)), H', ⟨Nat.le_refl _⟩, ⟨by repeat (first | (with_reducible first | exact HB.out | apply below_alloc | apply pw_below_drewN | apply below_drew1) | exact HB.out)⟩⟩
  case round =>
    clear H'
    try clear p2
    obtain ⟨x1_1, x5_1, rfl, rfl, HA, HK1, HB⟩ := hrel
    cases gk with
    | zero => exact absurd HA.out (by simp [laws_heldStringS.l0])
    | succ k1 =>
      have H := HA.out
      clear HA
      simp only [laws_heldStringS.l0] at H
      by_cases c3 : x5_1 < (l0.length : Int)
      · rw [if_pos c3] at H
        have c3b0 : decide (x5_1 < (l0.length : Int)) = true := decide_eq_true c3
        clear c3
        by_cases c4 : 0 ≤ x5_1
        · rw [if_pos c4] at H
          have c4b0 : decide (0 ≤ x5_1) = true := decide_eq_true c4
          clear c4
          replace H := Option.bind_eq_some_iff.mp H
          obtain ⟨t178, A50, H⟩ := H
          replace H : (if (rdOf ByteArray.empty l0 x5_1).toList = t178.toList then (laws_heldStringS.l0 k1 l0 (wrap64 (x1_1 + 1)) (wrap64 (x5_1 + 1))) else (some (-1))) = some r := H
          have A5 := Aside0.mk A50
          clear A50
          by_cases c6 : (rdOf ByteArray.empty l0 x5_1).toList = t178.toList
          · rw [if_pos c6] at H
            have c6b0 : ((rdOf ByteArray.empty l0 x5_1).toList == t178.toList) = true := beq_iff_eq.mpr c6
            have c6b1 : ((rdOf ByteArray.empty l0 x5_1).toList != t178.toList) = false := bne_eq_false_iff_eq.mpr c6
            clear c6
            have H' := Aside0.mk H
            clear H
            try go_wp2
            have n0_ := Aside0.mk (below_drew1 HB.out)
            clear HB
            have HB := n0_
            clear n0_
            have p177 : 0 ≤ (x5_1 : Int) := of_decide_eq_true (by first | (with_reducible assumption) | assumption)
            have q177 : x5_1 < (l0.length : Int) := of_decide_eq_true (by first | (with_reducible assumption) | assumption)
            obtain ⟨ad177, e177, hx177_0⟩ := Kd.at_string HR0.out x5_1 p177 q177
            have hw177_0 := hx177_0
            cases e177
            replace hx177_0 := (HB.out.cell (World.block_lt_of_cell? w _ hx177_0)).trans hx177_0
            replace p177 := eq_true p177
            replace q177 := eq_true q177
            refine start_ (n := 7) (S := fun w' => w'.cell? (ad177.add (x5_1).toNat) = some (.string (rdOf ByteArray.empty l0 x5_1))) (ds := []) #[false, false, false, false, false, false, false] (by kernel_rfl) rfl rfl (((HB.out.cell (World.block_lt_of_cell? w _ hw177_0)).trans hw177_0)) (fun hHeld => ?_)
            generalize wr.drew = w7 at HB hx177_0 hHeld ⊢
            refine pure_ (i := 0) (N := some 12) (v := ?_) (a' := ?_) #[true, false, false, false, false, false, false] rfl rfl (by kernel_rfl) (fun _ _ _ h => h) (Or.inl ⟨by rfl, ?_⟩) ?_ ?_
            rotate_left
            · intro w'
              go_simp
              with_reducible rfl
            rotate_left
            · simp only [Act.put, List.setIfInBounds_toArray, List.set_cons_zero, List.set_cons_succ, i64_w, i32_w]
              rfl
            refine pure_ (i := 1) (N := some 13) (v := ?_) (a' := ?_) #[true, true, false, false, false, false, false] rfl rfl (by kernel_rfl) (fun _ _ _ h => h) (Or.inl ⟨by rfl, ?_⟩) ?_ ?_
            rotate_left
            · intro w'
              go_simp
              with_reducible rfl
            rotate_left
            · simp only [Act.put, List.setIfInBounds_toArray, List.set_cons_zero, List.set_cons_succ, i64_w, i32_w]
              rfl
            refine pure_ (i := 2) (N := some 14) (v := ?_) (a' := ?_) #[true, true, true, false, false, false, false] rfl rfl (by kernel_rfl) (fun _ _ _ h => h) (Or.inl ⟨by rfl, ?_⟩) ?_ ?_
            rotate_left
            · intro w'
              go_simp
              with_reducible rfl
            rotate_left
            · simp only [Act.put, List.setIfInBounds_toArray, List.set_cons_zero, List.set_cons_succ, i64_w, i32_w]
              rfl
            refine pure_ (i := 4) (N := some 16) (v := ?_) (a' := ?_) #[true, true, true, false, true, false, false] rfl rfl (by kernel_rfl) (fun _ _ _ h => h) (Or.inl ⟨by rfl, ?_⟩) ?_ ?_
            rotate_left
            · intro w'
              go_simp
              with_reducible rfl
            rotate_left
            · simp only [Act.put, List.setIfInBounds_toArray, List.set_cons_zero, List.set_cons_succ, i64_w, i32_w]
              rfl
            refine take_ (i := 3) (N := some 15) (v := ?_) (a' := ?_) #[true, true, true, true, true, false, false] rfl rfl (by kernel_rfl) (fun _ _ _ h => h) (Or.inl ⟨by rfl, ?_⟩) hHeld ?_ ?_
            rotate_left
            · intro w' s0
              go_simp
              with_reducible rfl
            rotate_left
            · simp only [Act.put, List.setIfInBounds_toArray, List.set_cons_zero, List.set_cons_succ, i64_w, i32_w]
              rfl
            refine one_ (i := 5) (N := some 17) #[true, true, true, true, true, true, false] rfl rfl (by kernel_rfl) (by decide) (fun K hK => ?_)
            refine goes_ Try.func94 (by kernel_rfl) rfl #[.int .i64 x1_1] (by rfl) rfl rfl (by (try simp only [List.map_toArray, List.map_cons, List.map_nil]); first | done | rfl | (simp only [List.length_drop, List.length_take]; rfl)) ?_
            with_reducible refine (laws_markText.calls k1 x1_1 t178 _ A5.out).mono ?_
            rintro e w8 ⟨rfl, hb⟩
            refine ⟨_, rfl, ?_⟩
            have n0_ := Aside0.mk (below_step (by repeat (first | (with_reducible first | exact HB.out | apply below_alloc | apply pw_below_drewN | apply below_drew1) | exact HB.out)) hb)
            clear HB
            have HB := n0_
            clear n0_
            (try clear hb)
            (try clear hb2)
            (try clear hk)
            (try clear hi)
            refine hK.out _ _ (((HB.out.cell (World.block_lt_of_cell? w _ hw177_0)).trans hw177_0)) (fun hHeld => ?_)
            clear hK K
            refine norm_ (a' := ?_) ?_ ?_
            rotate_left
            · show Act.put _ (some 17) _ = _
              simp only [Act.put, List.setIfInBounds_toArray, List.set_cons_zero, List.set_cons_succ, i64_w, i32_w]
              rfl
            refine pure_ (i := 6) (N := some 18) (v := ?_) (a' := ?_) #[true, true, true, true, true, true, true] rfl rfl (by kernel_rfl) (fun _ _ _ h => h) (Or.inl ⟨by rfl, ?_⟩) ?_ ?_
            rotate_left
            · intro w'
              go_simp
              with_reducible rfl
            rotate_left
            · simp only [Act.put, List.setIfInBounds_toArray, List.set_cons_zero, List.set_cons_succ, i64_w, i32_w]
              rfl
            refine done_ (by kernel_rfl) ?_
            try go_wp2
            go_roundg k1
            case measure => have := HK1.out; omega
            case rel => exact ⟨(wrap64 (x1_1 + 1)), (wrap64 (x5_1 + 1)), (by first | rfl | (simp; done) | (simp [*]; done)), (by first | rfl | (simp; done) | (simp [*]; done)), H', ⟨by have := HK1.out; omega⟩, ⟨by repeat (first | (with_reducible first | exact HB.out | apply below_alloc | apply pw_below_drewN | apply below_drew1) | exact HB.out)⟩⟩
          · rw [if_neg c6] at H
            have c6b0 : ((rdOf ByteArray.empty l0 x5_1).toList == t178.toList) = false := beq_eq_false_iff_ne.mpr c6
            have c6b1 : ((rdOf ByteArray.empty l0 x5_1).toList != t178.toList) = true := bne_iff_ne.mpr c6
            obtain rfl := Option.some.inj H
            try go_wp2
            have n0_ := Aside0.mk (below_drew1 HB.out)
            clear HB
            have HB := n0_
            clear n0_
            have p177 : 0 ≤ (x5_1 : Int) := of_decide_eq_true (by first | (with_reducible assumption) | assumption)
            have q177 : x5_1 < (l0.length : Int) := of_decide_eq_true (by first | (with_reducible assumption) | assumption)
            obtain ⟨ad177, e177, hx177_0⟩ := Kd.at_string HR0.out x5_1 p177 q177
            have hw177_0 := hx177_0
            cases e177
            replace hx177_0 := (HB.out.cell (World.block_lt_of_cell? w _ hx177_0)).trans hx177_0
            replace p177 := eq_true p177
            replace q177 := eq_true q177
            refine start_ (n := 7) (S := fun w' => w'.cell? (ad177.add (x5_1).toNat) = some (.string (rdOf ByteArray.empty l0 x5_1))) (ds := []) #[false, false, false, false, false, false, false] (by kernel_rfl) rfl rfl (((HB.out.cell (World.block_lt_of_cell? w _ hw177_0)).trans hw177_0)) (fun hHeld => ?_)
            generalize wr.drew = w9 at HB hx177_0 hHeld ⊢
            refine pure_ (i := 0) (N := some 12) (v := ?_) (a' := ?_) #[true, false, false, false, false, false, false] rfl rfl (by kernel_rfl) (fun _ _ _ h => h) (Or.inl ⟨by rfl, ?_⟩) ?_ ?_
            rotate_left
            · intro w'
              go_simp
              with_reducible rfl
            rotate_left
            · simp only [Act.put, List.setIfInBounds_toArray, List.set_cons_zero, List.set_cons_succ, i64_w, i32_w]
              rfl
            refine pure_ (i := 1) (N := some 13) (v := ?_) (a' := ?_) #[true, true, false, false, false, false, false] rfl rfl (by kernel_rfl) (fun _ _ _ h => h) (Or.inl ⟨by rfl, ?_⟩) ?_ ?_
            rotate_left
            · intro w'
              go_simp
              with_reducible rfl
            rotate_left
            · simp only [Act.put, List.setIfInBounds_toArray, List.set_cons_zero, List.set_cons_succ, i64_w, i32_w]
              rfl
            refine pure_ (i := 2) (N := some 14) (v := ?_) (a' := ?_) #[true, true, true, false, false, false, false] rfl rfl (by kernel_rfl) (fun _ _ _ h => h) (Or.inl ⟨by rfl, ?_⟩) ?_ ?_
            rotate_left
            · intro w'
              go_simp
              with_reducible rfl
            rotate_left
            · simp only [Act.put, List.setIfInBounds_toArray, List.set_cons_zero, List.set_cons_succ, i64_w, i32_w]
              rfl
            refine pure_ (i := 4) (N := some 16) (v := ?_) (a' := ?_) #[true, true, true, false, true, false, false] rfl rfl (by kernel_rfl) (fun _ _ _ h => h) (Or.inl ⟨by rfl, ?_⟩) ?_ ?_
            rotate_left
            · intro w'
              go_simp
              with_reducible rfl
            rotate_left
            · simp only [Act.put, List.setIfInBounds_toArray, List.set_cons_zero, List.set_cons_succ, i64_w, i32_w]
              rfl
            refine take_ (i := 3) (N := some 15) (v := ?_) (a' := ?_) #[true, true, true, true, true, false, false] rfl rfl (by kernel_rfl) (fun _ _ _ h => h) (Or.inl ⟨by rfl, ?_⟩) hHeld ?_ ?_
            rotate_left
            · intro w' s0
              go_simp
              with_reducible rfl
            rotate_left
            · simp only [Act.put, List.setIfInBounds_toArray, List.set_cons_zero, List.set_cons_succ, i64_w, i32_w]
              rfl
            refine one_ (i := 5) (N := some 17) #[true, true, true, true, true, true, false] rfl rfl (by kernel_rfl) (by decide) (fun K hK => ?_)
            refine goes_ Try.func94 (by kernel_rfl) rfl #[.int .i64 x1_1] (by rfl) rfl rfl (by (try simp only [List.map_toArray, List.map_cons, List.map_nil]); first | done | rfl | (simp only [List.length_drop, List.length_take]; rfl)) ?_
            with_reducible refine (laws_markText.calls k1 x1_1 t178 _ A5.out).mono ?_
            rintro e w10 ⟨rfl, hb⟩
            refine ⟨_, rfl, ?_⟩
            have n0_ := Aside0.mk (below_step (by repeat (first | (with_reducible first | exact HB.out | apply below_alloc | apply pw_below_drewN | apply below_drew1) | exact HB.out)) hb)
            clear HB
            have HB := n0_
            clear n0_
            (try clear hb)
            (try clear hb2)
            (try clear hk)
            (try clear hi)
            refine hK.out _ _ (((HB.out.cell (World.block_lt_of_cell? w _ hw177_0)).trans hw177_0)) (fun hHeld => ?_)
            clear hK K
            refine norm_ (a' := ?_) ?_ ?_
            rotate_left
            · show Act.put _ (some 17) _ = _
              simp only [Act.put, List.setIfInBounds_toArray, List.set_cons_zero, List.set_cons_succ, i64_w, i32_w]
              rfl
            refine pure_ (i := 6) (N := some 18) (v := ?_) (a' := ?_) #[true, true, true, true, true, true, true] rfl rfl (by kernel_rfl) (fun _ _ _ h => h) (Or.inl ⟨by rfl, ?_⟩) ?_ ?_
            rotate_left
            · intro w'
              go_simp
              with_reducible rfl
            rotate_left
            · simp only [Act.put, List.setIfInBounds_toArray, List.set_cons_zero, List.set_cons_succ, i64_w, i32_w]
              rfl
            refine done_ (by kernel_rfl) ?_
            try go_wp2
            go_ret
            exact ⟨by first | rfl | (simp [errW_none, errW_some] <;> rfl) | (simp [*, errW_none, errW_some] <;> rfl), by repeat (first | (with_reducible first | exact HB.out | apply below_alloc | apply pw_below_drewN | apply below_drew1) | exact HB.out)⟩
        · rw [if_neg c4] at H
          exact absurd H (by simp)
      · rw [if_neg c3] at H
        have c3b0 : decide (x5_1 < (l0.length : Int)) = false := decide_eq_false c3
        clear c3
        obtain rfl := Option.some.inj H
        go_wp2
        go_ret
        exact ⟨by first | rfl | (simp [errW_none, errW_some] <;> rfl) | (simp [*, errW_none, errW_some] <;> rfl), by repeat (first | (with_reducible first | exact HB.out | apply below_alloc | apply pw_below_drewN | apply below_drew1) | exact HB.out)⟩

/-! ### laws_heldNameHeap: function 33 -/
def laws_heldNameHeap.f (k : Nat) (l0_0 : List ByteArray) (a1 : Int) : Option (Int) := (laws_heldStringS.f k l0_0 a1).bind fun t180 => (if t180 < 0 then (some (-1)) else (some t180))
theorem laws_heldNameHeap.mono : ∀ a0 a1 k, LeO (laws_heldNameHeap.f k a0 a1) (laws_heldNameHeap.f (k + 1) a0 a1) := by
  intro a0 a1 k
  unfold laws_heldNameHeap.f
  repeat' first
      | (with_reducible exact laws_heldStringS.mono _ _ _)
      | (with_reducible exact LeO.refl _)
      | (with_reducible exact LeO.none _)
      | (with_reducible refine LeO.ite ?_ ?_)
      | (with_reducible refine LeO.bind ?_ (fun _ => ?_))
      | exact laws_heldStringS.mono _ _ _
      | exact LeO.none _
      | refine LeO.ite ?_ ?_
      | refine LeO.bind ?_ (fun _ => ?_)
set_option maxHeartbeats 8000000 in
set_option maxRecDepth 100000 in
theorem laws_heldNameHeap.calls (k : Nat) (A0_0 : Option Addr) (c0_0 : Nat) (l0_0 : List ByteArray) (a1 : Int) (r : Int) (w : World) (hr0_0 : Kd.C Kd.string w A0_0 l0_0.length l0_0) (hc0_0 : l0_0.length ≤ c0_0) (h : laws_heldNameHeap.f k l0_0 a1 = some r) :
    Calls Try.prog 33 #[.agg #[.slice A0_0 l0_0.length c0_0], .int .i64 a1] w fun e w' => e = .returned (.int .i64 r) ∧ Below w.heap.size w w' := by
  have hu43 := Try.underlying43
  have HR0_0 := Aside0.mk hr0_0
  have HC0_0 := Aside0.mk hc0_0
  clear hr0_0 hc0_0
  have HB := Aside0.mk (Below.refl w.heap.size w)
  have H : ((laws_heldStringS.f k l0_0 a1).bind fun t180 => (if t180 < 0 then (some (-1)) else (some t180))) = some r := h
  clear h
  replace H := Option.bind_eq_some_iff.mp H
  obtain ⟨t180, A30, H⟩ := H
  replace H : (if t180 < 0 then (some (-1)) else (some t180)) = some r := H
  have A3 := Aside0.mk A30
  clear A30
  by_cases c4 : t180 < 0
  · rw [if_pos c4] at H
    have c4b0 : decide (t180 < 0) = true := decide_eq_true c4
    clear c4
    obtain rfl := Option.some.inj H
    go_enter Try.func33, Try.ntmps33
    go_wp2_with (first | ((with_reducible refine gate_dst (N := 2) rfl ?_); refine box_event ?hg (N := 2) ?hd (cs := #[.slice A0_0 l0_0.length c0_0]) (t := 43) ?hr ?_; (case hd => rfl); (case hg => rfl); (case hr => first | (go_simp; done) | (go_simp; rfl)); intro gb179 hg w5 hbox hb; have n0_ := Aside0.mk (below_step (by repeat (first | (with_reducible first | exact HB.out | apply below_alloc | apply pw_below_drewN | apply below_drew1) | exact HB.out)) hb); have n1_ := Aside0.mk (hbox); have n2_ := Aside0.mk ((by rw [hg]; exact (below_size (by repeat (first | (with_reducible first | exact HB.out | apply below_alloc | apply pw_below_drewN | apply below_drew1) | exact HB.out))) : w.heap.size ≤ gb179)); have n3_ := Aside0.mk ((by rw [hg]; exact (below_size (by repeat (first | (with_reducible first | exact HB.out | apply below_alloc | apply pw_below_drewN | apply below_drew1) | exact HB.out))) : w.heap.size ≤ gb179)); clear HB; have HB := n0_; have BK179 := n1_; have GW179 := n2_; have GE179 := n3_; clear n0_ n1_ n2_ n3_; clear hb hbox hg; have hcz6_0 : w5.cell? ⟨gb179, 0, none⟩ = some (.slice A0_0 l0_0.length c0_0) := (blk_cell BK179.out 0).trans rfl; have hfz6_0 := blk_frozen BK179.out 0) | ((with_reducible refine gate_callee (f := 73) rfl ?_); refine goesL_ (some 8) rfl rfl Try.func73 (by kernel_rfl) rfl #[.slice A0_0 l0_0.length c0_0, .int .i64 a1] rfl (by (try simp only [List.map_toArray, List.map_cons, List.map_nil]); first | done | rfl | (simp only [List.length_drop, List.length_take]; rfl)) ?_; (with_reducible refine (laws_heldStringS.calls k _ _ l0_0 a1 t180 _ ?side1 ?side2 A3.out).mono ?_); (case side1 => repeat (first | exact (Kd.C_below HR0_0.out HB.out) | (with_reducible refine Kd.C_alloc ?_ _) | (with_reducible refine Kd.C_drewN ?_ _) | (with_reducible refine Kd.C_drew ?_))); (case side2 => exact HC0_0.out); rintro e w7 ⟨rfl, hb⟩; refine ⟨_, rfl, ?_⟩; have n0_ := Aside0.mk (blk_below (g := gb179) (o := .cells #[.slice A0_0 l0_0.length c0_0] 43 (0, 0)) (by (with_reducible repeat (first | refine blk_drewN ?_ _ | refine blk_drew ?_ | refine blk_alloc ?_ _)); exact BK179.out) hb); have n1_ := Aside0.mk (below_step (by repeat (first | (with_reducible first | exact HB.out | apply below_alloc | apply pw_below_drewN | apply below_drew1 | refine below_set ?_ GE179.out) | exact HB.out)) hb); clear BK179; clear HB; have BK179 := n0_; have HB := n1_; clear n0_ n1_; (try clear hb); (try clear hb2); (try clear hk); (try clear hi)))
    go_ret
    exact ⟨by first | rfl | (simp [errW_none, errW_some] <;> rfl) | (simp [*, errW_none, errW_some] <;> rfl), by repeat (first | (with_reducible first | exact HB.out | apply below_alloc | apply pw_below_drewN | apply below_drew1 | refine below_set ?_ GE179.out) | exact HB.out)⟩
  · rw [if_neg c4] at H
    have c4b0 : decide (t180 < 0) = false := decide_eq_false c4
    clear c4
    obtain rfl := Option.some.inj H
    go_enter Try.func33, Try.ntmps33
    go_wp2_with (first | ((with_reducible refine gate_dst (N := 2) rfl ?_); refine box_event ?hg (N := 2) ?hd (cs := #[.slice A0_0 l0_0.length c0_0]) (t := 43) ?hr ?_; (case hd => rfl); (case hg => rfl); (case hr => first | (go_simp; done) | (go_simp; rfl)); intro gb179 hg w8 hbox hb; have n0_ := Aside0.mk (below_step (by repeat (first | (with_reducible first | exact HB.out | apply below_alloc | apply pw_below_drewN | apply below_drew1) | exact HB.out)) hb); have n1_ := Aside0.mk (hbox); have n2_ := Aside0.mk ((by rw [hg]; exact (below_size (by repeat (first | (with_reducible first | exact HB.out | apply below_alloc | apply pw_below_drewN | apply below_drew1) | exact HB.out))) : w.heap.size ≤ gb179)); have n3_ := Aside0.mk ((by rw [hg]; exact (below_size (by repeat (first | (with_reducible first | exact HB.out | apply below_alloc | apply pw_below_drewN | apply below_drew1) | exact HB.out))) : w.heap.size ≤ gb179)); clear HB; have HB := n0_; have BK179 := n1_; have GW179 := n2_; have GE179 := n3_; clear n0_ n1_ n2_ n3_; clear hb hbox hg; have hcz9_0 : w8.cell? ⟨gb179, 0, none⟩ = some (.slice A0_0 l0_0.length c0_0) := (blk_cell BK179.out 0).trans rfl; have hfz9_0 := blk_frozen BK179.out 0) | ((with_reducible refine gate_callee (f := 73) rfl ?_); refine goesL_ (some 8) rfl rfl Try.func73 (by kernel_rfl) rfl #[.slice A0_0 l0_0.length c0_0, .int .i64 a1] rfl (by (try simp only [List.map_toArray, List.map_cons, List.map_nil]); first | done | rfl | (simp only [List.length_drop, List.length_take]; rfl)) ?_; (with_reducible refine (laws_heldStringS.calls k _ _ l0_0 a1 t180 _ ?side1 ?side2 A3.out).mono ?_); (case side1 => repeat (first | exact (Kd.C_below HR0_0.out HB.out) | (with_reducible refine Kd.C_alloc ?_ _) | (with_reducible refine Kd.C_drewN ?_ _) | (with_reducible refine Kd.C_drew ?_))); (case side2 => exact HC0_0.out); rintro e w10 ⟨rfl, hb⟩; refine ⟨_, rfl, ?_⟩; have n0_ := Aside0.mk (blk_below (g := gb179) (o := .cells #[.slice A0_0 l0_0.length c0_0] 43 (0, 0)) (by (with_reducible repeat (first | refine blk_drewN ?_ _ | refine blk_drew ?_ | refine blk_alloc ?_ _)); exact BK179.out) hb); have n1_ := Aside0.mk (below_step (by repeat (first | (with_reducible first | exact HB.out | apply below_alloc | apply pw_below_drewN | apply below_drew1 | refine below_set ?_ GE179.out) | exact HB.out)) hb); clear BK179; clear HB; have BK179 := n0_; have HB := n1_; clear n0_ n1_; (try clear hb); (try clear hb2); (try clear hk); (try clear hi)))
    go_ret
    exact ⟨by first | rfl | (simp [errW_none, errW_some] <;> rfl) | (simp [*, errW_none, errW_some] <;> rfl), by repeat (first | (with_reducible first | exact HB.out | apply below_alloc | apply pw_below_drewN | apply below_drew1 | refine below_set ?_ GE179.out) | exact HB.out)⟩

/-! ### laws_FnExactDecodeHeap: function 6 -/
mutual
def laws_FnExactDecodeHeap.j0 : Nat → ByteArray → Bool → Bool → List ByteArray → List ByteArray → Option (Bool)
  | 0, _, _, _, _, _ => none
  | k + 1, x0, x4, x32, x186000, x191000 => if x32 = true then (some false) else ((laws_markNameHeap.f k x191000 1).bind fun bt192 => ((laws_heldNameHeap.f k bt192.2 1).bind fun t194 => (if t194 < 0 then (some false) else (if t194 = bt192.1 then ((impl_DecodeHeap.f k x0).bind fun bt195 => ((laws_eqNameHeap.f k bt195.1 x186000).bind fun t200 => (if t200 = true then (laws_FnExactDecodeHeap.j1 k bt192.1 (bt195.2 != x4) bt192.2) else (laws_FnExactDecodeHeap.j1 k bt192.1 true bt192.2)))) else (some false)))))
def laws_FnExactDecodeHeap.j1 : Nat → Int → Bool → List ByteArray → Option (Bool)
  | 0, _, _, _ => none
  | k + 1, x7, x57, x191000 => if x57 = true then (some false) else ((laws_heldNameHeap.f k x191000 1).bind fun t201 => (if t201 < 0 then (some false) else (if t201 = x7 then (some true) else (some false))))
end
def laws_FnExactDecodeHeap.f (k : Nat) (a0 : ByteArray) : Option (Bool) := if (a0.size : Int) > 1048576 then (some true) else ((spec_DecodeHeap.f k a0).bind fun bt181 => ((impl_DecodeHeap.f k a0).bind fun bt186 => ((laws_eqNameHeap.f k bt186.1 bt181.1).bind fun t191 => (if t191 = true then (laws_FnExactDecodeHeap.j0 k a0 bt181.2 (bt186.2 != bt181.2) bt181.1 bt186.1) else (laws_FnExactDecodeHeap.j0 k a0 bt181.2 true bt181.1 bt186.1)))))
theorem laws_FnExactDecodeHeap.mono_l : ∀ k, (∀ y0 y1 y2 y3 y4, LeO (laws_FnExactDecodeHeap.j0 k y0 y1 y2 y3 y4) (laws_FnExactDecodeHeap.j0 (k + 1) y0 y1 y2 y3 y4)) ∧ (∀ y0 y1 y2, LeO (laws_FnExactDecodeHeap.j1 k y0 y1 y2) (laws_FnExactDecodeHeap.j1 (k + 1) y0 y1 y2))
  | 0 => ⟨fun _ _ _ _ _ r h => by simp [laws_FnExactDecodeHeap.j0] at h, fun _ _ _ r h => by simp [laws_FnExactDecodeHeap.j1] at h⟩
  | k + 1 => by
    obtain ⟨ih0, ih1⟩ := laws_FnExactDecodeHeap.mono_l k
    refine ⟨?_, ?_⟩
    · intro y0 y1 y2 y3 y4
      unfold laws_FnExactDecodeHeap.j0
      repeat' first
      | (with_reducible exact ih0 _ _ _ _ _)
      | (with_reducible exact ih1 _ _ _)
      | (with_reducible exact impl_DecodeHeap.mono _ _)
      | (with_reducible exact laws_eqNameHeap.mono _ _ _)
      | (with_reducible exact laws_heldNameHeap.mono _ _ _)
      | (with_reducible exact laws_markNameHeap.mono _ _ _)
      | (with_reducible exact spec_DecodeHeap.mono _ _)
      | (with_reducible exact LeO.refl _)
      | (with_reducible exact LeO.none _)
      | (with_reducible refine LeO.ite ?_ ?_)
      | (with_reducible refine LeO.bind ?_ (fun _ => ?_))
      | exact ih0 _ _ _ _ _
      | exact ih1 _ _ _
      | exact impl_DecodeHeap.mono _ _
      | exact laws_eqNameHeap.mono _ _ _
      | exact laws_heldNameHeap.mono _ _ _
      | exact laws_markNameHeap.mono _ _ _
      | exact spec_DecodeHeap.mono _ _
      | exact LeO.none _
      | refine LeO.ite ?_ ?_
      | refine LeO.bind ?_ (fun _ => ?_)
    · intro y0 y1 y2
      unfold laws_FnExactDecodeHeap.j1
      repeat' first
      | (with_reducible exact ih0 _ _ _ _ _)
      | (with_reducible exact ih1 _ _ _)
      | (with_reducible exact impl_DecodeHeap.mono _ _)
      | (with_reducible exact laws_eqNameHeap.mono _ _ _)
      | (with_reducible exact laws_heldNameHeap.mono _ _ _)
      | (with_reducible exact laws_markNameHeap.mono _ _ _)
      | (with_reducible exact spec_DecodeHeap.mono _ _)
      | (with_reducible exact LeO.refl _)
      | (with_reducible exact LeO.none _)
      | (with_reducible refine LeO.ite ?_ ?_)
      | (with_reducible refine LeO.bind ?_ (fun _ => ?_))
      | exact ih0 _ _ _ _ _
      | exact ih1 _ _ _
      | exact impl_DecodeHeap.mono _ _
      | exact laws_eqNameHeap.mono _ _ _
      | exact laws_heldNameHeap.mono _ _ _
      | exact laws_markNameHeap.mono _ _ _
      | exact spec_DecodeHeap.mono _ _
      | exact LeO.none _
      | refine LeO.ite ?_ ?_
      | refine LeO.bind ?_ (fun _ => ?_)
theorem laws_FnExactDecodeHeap.mono : ∀ a0 k, LeO (laws_FnExactDecodeHeap.f k a0) (laws_FnExactDecodeHeap.f (k + 1) a0) := by
  intro a0 k
  obtain ⟨ih0, ih1⟩ := laws_FnExactDecodeHeap.mono_l k
  unfold laws_FnExactDecodeHeap.f
  repeat' first
      | (with_reducible exact ih0 _ _ _ _ _)
      | (with_reducible exact ih1 _ _ _)
      | (with_reducible exact impl_DecodeHeap.mono _ _)
      | (with_reducible exact laws_eqNameHeap.mono _ _ _)
      | (with_reducible exact laws_heldNameHeap.mono _ _ _)
      | (with_reducible exact laws_markNameHeap.mono _ _ _)
      | (with_reducible exact spec_DecodeHeap.mono _ _)
      | (with_reducible exact LeO.refl _)
      | (with_reducible exact LeO.none _)
      | (with_reducible refine LeO.ite ?_ ?_)
      | (with_reducible refine LeO.bind ?_ (fun _ => ?_))
      | exact ih0 _ _ _ _ _
      | exact ih1 _ _ _
      | exact impl_DecodeHeap.mono _ _
      | exact laws_eqNameHeap.mono _ _ _
      | exact laws_heldNameHeap.mono _ _ _
      | exact laws_markNameHeap.mono _ _ _
      | exact spec_DecodeHeap.mono _ _
      | exact LeO.none _
      | refine LeO.ite ?_ ?_
      | refine LeO.bind ?_ (fun _ => ?_)
set_option maxHeartbeats 8000000 in
set_option maxRecDepth 100000 in
theorem laws_FnExactDecodeHeap.calls (k : Nat) (a0 : ByteArray) (r : Bool) (w : World) (h : laws_FnExactDecodeHeap.f k a0 = some r) :
    Calls Try.prog 6 #[.string a0] w fun e w' => e = .returned (.bool r) ∧ Below w.heap.size w w' := by
  have hu43 := Try.underlying43
  have HB := Aside0.mk (Below.refl w.heap.size w)
  have H : (if (a0.size : Int) > 1048576 then (some true) else ((spec_DecodeHeap.f k a0).bind fun bt181 => ((impl_DecodeHeap.f k a0).bind fun bt186 => ((laws_eqNameHeap.f k bt186.1 bt181.1).bind fun t191 => (if t191 = true then (laws_FnExactDecodeHeap.j0 k a0 bt181.2 (bt186.2 != bt181.2) bt181.1 bt186.1) else (laws_FnExactDecodeHeap.j0 k a0 bt181.2 true bt181.1 bt186.1)))))) = some r := h
  clear h
  by_cases c2 : (a0.size : Int) > 1048576
  · rw [if_pos c2] at H
    have c2b0 : decide (1048576 < (a0.size : Int)) = true := decide_eq_true c2
    have c2b1 : decide (1048576 < a0.size) = true := decide_eq_true (by omega)
    clear c2
    obtain rfl := Option.some.inj H
    go_enter Try.func6, Try.ntmps6
    go_wp2
    go_ret
    exact ⟨by first | rfl | (simp [errW_none, errW_some] <;> rfl) | (simp [*, errW_none, errW_some] <;> rfl), by repeat (first | (with_reducible first | exact HB.out | apply below_alloc | apply pw_below_drewN | apply below_drew1) | exact HB.out)⟩
  · rw [if_neg c2] at H
    have c2b0 : decide (1048576 < (a0.size : Int)) = false := decide_eq_false c2
    have c2b1 : decide (1048576 < a0.size) = false := decide_eq_false (by omega)
    clear c2
    replace H := Option.bind_eq_some_iff.mp H
    obtain ⟨⟨t181, t184⟩, A30, H⟩ := H
    replace H : ((impl_DecodeHeap.f k a0).bind fun bt186 => ((laws_eqNameHeap.f k bt186.1 t181).bind fun t191 => (if t191 = true then (laws_FnExactDecodeHeap.j0 k a0 t184 (bt186.2 != t184) t181 bt186.1) else (laws_FnExactDecodeHeap.j0 k a0 t184 true t181 bt186.1)))) = some r := H
    have A3 := Aside0.mk A30
    clear A30
    replace H := Option.bind_eq_some_iff.mp H
    obtain ⟨⟨t186, t189⟩, A40, H⟩ := H
    replace H : ((laws_eqNameHeap.f k t186 t181).bind fun t191 => (if t191 = true then (laws_FnExactDecodeHeap.j0 k a0 t184 (t189 != t184) t181 t186) else (laws_FnExactDecodeHeap.j0 k a0 t184 true t181 t186))) = some r := H
    have A4 := Aside0.mk A40
    clear A40
    have HC5 := Aside0.mk H
    clear H
    go_enter Try.func6, Try.ntmps6
    go_upto_region 5 with (first | ((with_reducible refine gate_callee (f := 29) rfl ?_); refine goesL_ (some 16) rfl rfl Try.func29 (by kernel_rfl) rfl #[.string a0] rfl (by (try simp only [List.map_toArray, List.map_cons, List.map_nil]); first | done | rfl | (simp only [List.length_drop, List.length_take]; rfl)) ?_; (with_reducible refine (spec_DecodeHeap.calls k a0 t181 t184 _ A3.out).mono ?_); rintro e w6 ⟨v182, rfl, ho0, hb⟩; refine ⟨_, rfl, ?_⟩; have n0_ := Aside0.mk (Kd.R_lower ho0 (below_size (by repeat (first | (with_reducible first | exact HB.out | apply below_alloc | apply pw_below_drewN | apply below_drew1) | exact HB.out)))); have n1_ := Aside0.mk (below_step (by repeat (first | (with_reducible first | exact HB.out | apply below_alloc | apply pw_below_drewN | apply below_drew1) | exact HB.out)) hb); clear HB; have HO183 := n0_; have HB := n1_; clear n0_ n1_; (try clear hb); (try clear hb2); (try clear hk); (try clear hi); (try clear ho0)) | ((with_reducible refine gate_dst (N := 3) rfl ?_); refine box_event ?hg (N := 3) ?hd (cs := #[.slice none 0 0]) (t := 43) ?hr ?_; (case hd => rfl); (case hg => rfl); (case hr => first | (go_simp; done) | (go_simp; rfl)); intro gb185 hg w7 hbox hb; have n0_ := Aside0.mk (Kd.R_below (by (with_reducible repeat (first | apply Kd.R_alloc | apply Kd.R_drewN | apply Kd.R_drew)); exact HO183.out) hb); have n1_ := Aside0.mk (below_step (by repeat (first | (with_reducible first | exact HB.out | apply below_alloc | apply pw_below_drewN | apply below_drew1) | exact HB.out)) hb); have n2_ := Aside0.mk (hbox); have n3_ := Aside0.mk ((by rw [hg]; exact (below_size (by repeat (first | (with_reducible first | exact HB.out | apply below_alloc | apply pw_below_drewN | apply below_drew1) | exact HB.out))) : w.heap.size ≤ gb185)); have n4_ := Aside0.mk ((by rw [hg]; exact (below_size (by repeat (first | (with_reducible first | exact HB.out | apply below_alloc | apply pw_below_drewN | apply below_drew1) | exact HB.out))) : w.heap.size ≤ gb185)); clear HO183; clear HB; have HO183 := n0_; have HB := n1_; have BK185 := n2_; have GW185 := n3_; have GE185 := n4_; clear n0_ n1_ n2_ n3_ n4_; clear hb hbox hg; obtain ⟨Ao8, co8, eo8⟩ := Kd.R_slice HO183.out; subst eo8; have hcz9_0 : w7.cell? ⟨gb185, 0, none⟩ = some (.slice none 0 0) := (blk_cell BK185.out 0).trans rfl; have hfz9_0 := blk_frozen BK185.out 0) | ((with_reducible refine gate_callee (f := 30) rfl ?_); refine goesL_ (some 21) rfl rfl Try.func30 (by kernel_rfl) rfl #[.string a0] rfl (by (try simp only [List.map_toArray, List.map_cons, List.map_nil]); first | done | rfl | (simp only [List.length_drop, List.length_take]; rfl)) ?_; (with_reducible refine (impl_DecodeHeap.calls k a0 t186 t189 _ A4.out).mono ?_); rintro e w10 ⟨v187, rfl, ho0, hb⟩; refine ⟨_, rfl, ?_⟩; have n0_ := Aside0.mk (Kd.R_elder' (by (with_reducible repeat (first | apply Kd.R_alloc | apply Kd.R_drewN | apply Kd.R_drew)); exact (Kd.R_mono (Kd.R_far (p := ⟨gb185, 0, none⟩) (Kd.R_types HO183.out BK185.out (by decide)) (fun _ hk => hk.2) (.slice Ao8 t181.length co8)) (fun _ h_ => h_.1))) (Kd.R_base ho0) hb); have n1_ := Aside0.mk (Kd.R_lower (Kd.R_new' ho0 (Kd.R_lt (by (with_reducible repeat (first | apply Kd.R_alloc | apply Kd.R_drewN | apply Kd.R_drew)); exact (Kd.R_mono (Kd.R_far (p := ⟨gb185, 0, none⟩) (Kd.R_types HO183.out BK185.out (by decide)) (fun _ hk => hk.2) (.slice Ao8 t181.length co8)) (fun _ h_ => h_.1))))) (below_size (by repeat (first | (with_reducible first | exact HB.out | apply below_alloc | apply pw_below_drewN | apply below_drew1 | refine below_set ?_ GE185.out) | exact HB.out)))); have n2_ := Aside0.mk (blk_below (g := gb185) (o := .cells #[.slice Ao8 t181.length co8] 43 (0, 0)) (by (with_reducible repeat (first | refine blk_drewN ?_ _ | refine blk_drew ?_ | refine blk_alloc ?_ _)); refine blk_put (cs := #[.slice none 0 0]) ?_ 0 _ rfl; (with_reducible repeat (first | refine blk_drewN ?_ _ | refine blk_drew ?_ | refine blk_alloc ?_ _)); exact BK185.out) hb); have n3_ := Aside0.mk (below_step (by repeat (first | (with_reducible first | exact HB.out | apply below_alloc | apply pw_below_drewN | apply below_drew1 | refine below_set ?_ GE185.out) | exact HB.out)) hb); clear HO183; clear BK185; clear HB; have HO183 := n0_; have HO188 := n1_; have BK185 := n2_; have HB := n3_; clear n0_ n1_ n2_ n3_; (try clear hb); (try clear hb2); (try clear hk); (try clear hi); (try clear ho0)) | ((with_reducible refine gate_dst (N := 5) rfl ?_); refine box_event ?hg (N := 5) ?hd (cs := #[.slice none 0 0]) (t := 43) ?hr ?_; (case hd => rfl); (case hg => rfl); (case hr => first | (go_simp; done) | (go_simp; rfl)); intro gb190 hg w11 hbox hb; have n0_ := Aside0.mk (Kd.R_below (by (with_reducible repeat (first | apply Kd.R_alloc | apply Kd.R_drewN | apply Kd.R_drew)); exact HO183.out) hb); have n1_ := Aside0.mk (Kd.R_below (by (with_reducible repeat (first | apply Kd.R_alloc | apply Kd.R_drewN | apply Kd.R_drew)); exact HO188.out) hb); have n2_ := Aside0.mk (blk_below (g := gb185) (o := .cells #[.slice Ao8 t181.length co8] 43 (0, 0)) (by (with_reducible repeat (first | refine blk_drewN ?_ _ | refine blk_drew ?_ | refine blk_alloc ?_ _)); exact BK185.out) hb); have n3_ := Aside0.mk (below_step (by repeat (first | (with_reducible first | exact HB.out | apply below_alloc | apply pw_below_drewN | apply below_drew1 | refine below_set ?_ GE185.out) | exact HB.out)) hb); have n4_ := Aside0.mk (hbox); have n5_ := Aside0.mk ((by rw [hg]; exact (below_size (by repeat (first | (with_reducible first | exact HB.out | apply below_alloc | apply pw_below_drewN | apply below_drew1 | refine below_set ?_ GE185.out) | exact HB.out))) : w.heap.size ≤ gb190)); have n6_ := Aside0.mk ((by rw [hg]; exact (below_size (by repeat (first | (with_reducible first | exact HB.out | apply below_alloc | apply pw_below_drewN | apply below_drew1 | refine below_set ?_ GE185.out) | exact HB.out))) : w.heap.size ≤ gb190)); have n7_ := Aside0.mk ((by rw [hg]; exact Nat.ne_of_lt (blk_lt (g := gb185) (o := .cells #[.slice Ao8 t181.length co8] 43 (0, 0)) (by (with_reducible repeat (first | refine blk_drewN ?_ _ | refine blk_drew ?_ | refine blk_alloc ?_ _)); exact BK185.out)) : gb185 ≠ gb190)); have n8_ := Aside0.mk ((by rw [hg]; exact Nat.ne_of_gt (blk_lt (g := gb185) (o := .cells #[.slice Ao8 t181.length co8] 43 (0, 0)) (by (with_reducible repeat (first | refine blk_drewN ?_ _ | refine blk_drew ?_ | refine blk_alloc ?_ _)); exact BK185.out)) : gb190 ≠ gb185)); clear HO183; clear HO188; clear BK185; clear HB; have HO183 := n0_; have HO188 := n1_; have BK185 := n2_; have HB := n3_; have BK190 := n4_; have GW190 := n5_; have GE190 := n6_; have NB185_190 := n7_; have NB190_185 := n8_; clear n0_ n1_ n2_ n3_ n4_ n5_ n6_ n7_ n8_; clear hb hbox hg; obtain ⟨Ao12, co12, eo12⟩ := Kd.R_slice HO188.out; subst eo12; have hnb13 := NB190_185.out; have hnc13 := NB185_190.out; have hcz14_0 : w11.cell? ⟨gb190, 0, none⟩ = some (.slice none 0 0) := (blk_cell BK190.out 0).trans rfl; have hfz14_0 := blk_frozen BK190.out 0))
    (try simp only [Act.put, List.setIfInBounds_toArray, List.set_cons_zero, List.set_cons_succ])
    go_cut [32] (fun v32 wc => ∃ (kq : Nat) (x32_4 : Bool), v32 = .bool x32_4 ∧ Aside0 (laws_FnExactDecodeHeap.j0 kq a0 t184 x32_4 t181 t186 = some r) ∧ Aside0 (kq ≤ k) ∧ Aside0 (Kd.R Kd.string 9 wc w.heap.size (fun k_ => some k_ ≠ ((.slice Ao12 t186.length co12) : Value).ownBlock) (.slice Ao8 t181.length co8) t181) ∧ Aside0 (Kd.R Kd.string 9 wc w.heap.size (fun k_ => some k_ ≠ ((.slice Ao8 t181.length co8) : Value).ownBlock) (.slice Ao12 t186.length co12) t186) ∧ Aside0 (wc.heap[gb185]? = some (.cells #[(.slice Ao8 t181.length co8)] 43 (0, 0))) ∧ Aside0 (wc.heap[gb190]? = some (.cells #[(.slice Ao12 t186.length co12)] 43 (0, 0))) ∧ Aside0 (Below w.heap.size w wc))
    case first =>
      have H := HC5.out
      clear HC5
      replace H := Option.bind_eq_some_iff.mp H
      obtain ⟨t191, A150, H⟩ := H
      replace H : (if t191 = true then (laws_FnExactDecodeHeap.j0 k a0 t184 (t189 != t184) t181 t186) else (laws_FnExactDecodeHeap.j0 k a0 t184 true t181 t186)) = some r := H
      have A15 := Aside0.mk A150
      clear A150
      by_cases c16 : t191 = true
      · subst c16
        have H1 : (laws_FnExactDecodeHeap.j0 k a0 t184 (t189 != t184) t181 t186) = some r := by rw [if_pos rfl] at H; exact H
        clear H
        have H := H1
        clear H1
        have H' := Aside0.mk H
        clear H
        have hnb17 := NB190_185.out
        have hnc17 := NB185_190.out
        have hcz18_0 : w11.cell? ⟨gb190, 0, none⟩ = some (.slice none 0 0) := (blk_cell BK190.out 0).trans rfl
        have hfz18_0 := blk_frozen BK190.out 0
        have hcz19_0 : w11.cell? ⟨gb185, 0, none⟩ = some (.slice Ao8 t181.length co8) := (blk_cell BK185.out 0).trans rfl
        have hfz19_0 := blk_frozen BK185.out 0
        go_wp2_with (first | ((with_reducible refine gate_callee (f := 31) rfl ?_); refine goesL_ (some 26) rfl rfl Try.func31 (by kernel_rfl) rfl #[.agg #[.slice Ao12 t186.length co12], .agg #[.slice Ao8 t181.length co8]] rfl (by (try simp only [List.map_toArray, List.map_cons, List.map_nil]); first | done | rfl | (simp only [List.length_drop, List.length_take]; rfl)) ?_; (with_reducible refine (laws_eqNameHeap.calls k _ _ t186 _ _ t181 true _ ?side1 ?side2 ?side3 ?side4 A15.out).mono ?_); (case side1 => refine (Kd.R_reads' (e := 9) (base := w.heap.size) (ok := fun k_ => (True ∧ some k_ ≠ (.slice Ao8 t181.length co8 : Value).ownBlock)) (n := t186.length) (c := co12) ?_).2.2; exact (by (with_reducible repeat (first | apply Kd.R_alloc | apply Kd.R_drewN | apply Kd.R_drew)); exact (Kd.R_mono (Kd.R_far (p := ⟨gb190, 0, none⟩) (Kd.R_types HO188.out BK190.out (by decide)) (fun _ hk => hk.2) (.slice Ao12 t186.length co12)) (fun _ h_ => h_.1)))); (case side2 => exact (Kd.R_reads' HO188.out).2.1); (case side3 => refine (Kd.R_reads' (e := 9) (base := w.heap.size) (ok := fun k_ => (True ∧ some k_ ≠ (.slice Ao12 t186.length co12 : Value).ownBlock)) (n := t181.length) (c := co8) ?_).2.2; exact (by (with_reducible repeat (first | apply Kd.R_alloc | apply Kd.R_drewN | apply Kd.R_drew)); exact (Kd.R_mono (Kd.R_far (p := ⟨gb190, 0, none⟩) (Kd.R_types HO183.out BK190.out (by decide)) (fun _ hk => hk.2) (.slice Ao12 t186.length co12)) (fun _ h_ => h_.1)))); (case side4 => exact (Kd.R_reads' HO183.out).2.1); rintro e w20 ⟨rfl, hb⟩; refine ⟨_, rfl, ?_⟩; have n0_ := Aside0.mk (Kd.R_below (by (with_reducible repeat (first | apply Kd.R_alloc | apply Kd.R_drewN | apply Kd.R_drew)); exact (Kd.R_mono (Kd.R_far (p := ⟨gb190, 0, none⟩) (Kd.R_types HO183.out BK190.out (by decide)) (fun _ hk => hk.2) (.slice Ao12 t186.length co12)) (fun _ h_ => h_.1))) hb); have n1_ := Aside0.mk (Kd.R_below (by (with_reducible repeat (first | apply Kd.R_alloc | apply Kd.R_drewN | apply Kd.R_drew)); exact (Kd.R_mono (Kd.R_far (p := ⟨gb190, 0, none⟩) (Kd.R_types HO188.out BK190.out (by decide)) (fun _ hk => hk.2) (.slice Ao12 t186.length co12)) (fun _ h_ => h_.1))) hb); have n2_ := Aside0.mk (blk_below (g := gb185) (o := .cells #[.slice Ao8 t181.length co8] 43 (0, 0)) (by (with_reducible repeat (first | refine blk_drewN ?_ _ | refine blk_drew ?_ | refine blk_alloc ?_ _)); refine blk_far ?_ NB185_190.out _; (with_reducible repeat (first | refine blk_drewN ?_ _ | refine blk_drew ?_ | refine blk_alloc ?_ _)); exact BK185.out) hb); have n3_ := Aside0.mk (blk_below (g := gb190) (o := .cells #[.slice Ao12 t186.length co12] 43 (0, 0)) (by (with_reducible repeat (first | refine blk_drewN ?_ _ | refine blk_drew ?_ | refine blk_alloc ?_ _)); refine blk_put (cs := #[.slice none 0 0]) ?_ 0 _ rfl; (with_reducible repeat (first | refine blk_drewN ?_ _ | refine blk_drew ?_ | refine blk_alloc ?_ _)); exact BK190.out) hb); have n4_ := Aside0.mk (below_step (by repeat (first | (with_reducible first | exact HB.out | apply below_alloc | apply pw_below_drewN | apply below_drew1 | refine below_set ?_ GE185.out | refine below_set ?_ GE190.out) | exact HB.out)) hb); clear HO183; clear HO188; clear BK185; clear BK190; clear HB; have HO183 := n0_; have HO188 := n1_; have BK185 := n2_; have BK190 := n3_; have HB := n4_; clear n0_ n1_ n2_ n3_ n4_; (try clear hb); (try clear hb2); (try clear hk); (try clear hi)))
        go_meet
        case rel => exact ⟨_, ((t189 != t184)), (by first | rfl | (simp; done) | (simp [*]; done)), H', ⟨by first | omega | exact Nat.le_refl _⟩, ⟨by (with_reducible repeat (first | apply Kd.R_alloc | apply Kd.R_drewN | apply Kd.R_drew)); exact Kd.R_mono HO183.out (fun _ hk => hk.2)⟩, ⟨by (with_reducible repeat (first | apply Kd.R_alloc | apply Kd.R_drewN | apply Kd.R_drew)); exact Kd.R_mono HO188.out (fun _ hk => hk.2)⟩, ⟨by (with_reducible repeat (first | refine blk_drewN ?_ _ | refine blk_drew ?_ | refine blk_alloc ?_ _)); exact BK185.out⟩, ⟨by (with_reducible repeat (first | refine blk_drewN ?_ _ | refine blk_drew ?_ | refine blk_alloc ?_ _)); exact BK190.out⟩, ⟨by repeat (first | (with_reducible first | exact HB.out | apply below_alloc | apply pw_below_drewN | apply below_drew1 | refine below_set ?_ GE185.out | refine below_set ?_ GE190.out) | exact HB.out)⟩⟩
      · replace c16 := Bool.eq_false_iff.mpr c16
        subst c16
        have H1 : (laws_FnExactDecodeHeap.j0 k a0 t184 true t181 t186) = some r := by rw [if_neg (show ¬ (false = true) by decide)] at H; exact H
        clear H
        have H := H1
        clear H1
        have H' := Aside0.mk H
        clear H
        have hnb21 := NB190_185.out
        have hnc21 := NB185_190.out
        have hcz22_0 : w11.cell? ⟨gb190, 0, none⟩ = some (.slice none 0 0) := (blk_cell BK190.out 0).trans rfl
        have hfz22_0 := blk_frozen BK190.out 0
        have hcz23_0 : w11.cell? ⟨gb185, 0, none⟩ = some (.slice Ao8 t181.length co8) := (blk_cell BK185.out 0).trans rfl
        have hfz23_0 := blk_frozen BK185.out 0
        go_wp2_with (first | ((with_reducible refine gate_callee (f := 31) rfl ?_); refine goesL_ (some 26) rfl rfl Try.func31 (by kernel_rfl) rfl #[.agg #[.slice Ao12 t186.length co12], .agg #[.slice Ao8 t181.length co8]] rfl (by (try simp only [List.map_toArray, List.map_cons, List.map_nil]); first | done | rfl | (simp only [List.length_drop, List.length_take]; rfl)) ?_; (with_reducible refine (laws_eqNameHeap.calls k _ _ t186 _ _ t181 false _ ?side1 ?side2 ?side3 ?side4 A15.out).mono ?_); (case side1 => refine (Kd.R_reads' (e := 9) (base := w.heap.size) (ok := fun k_ => (True ∧ some k_ ≠ (.slice Ao8 t181.length co8 : Value).ownBlock)) (n := t186.length) (c := co12) ?_).2.2; exact (by (with_reducible repeat (first | apply Kd.R_alloc | apply Kd.R_drewN | apply Kd.R_drew)); exact (Kd.R_mono (Kd.R_far (p := ⟨gb190, 0, none⟩) (Kd.R_types HO188.out BK190.out (by decide)) (fun _ hk => hk.2) (.slice Ao12 t186.length co12)) (fun _ h_ => h_.1)))); (case side2 => exact (Kd.R_reads' HO188.out).2.1); (case side3 => refine (Kd.R_reads' (e := 9) (base := w.heap.size) (ok := fun k_ => (True ∧ some k_ ≠ (.slice Ao12 t186.length co12 : Value).ownBlock)) (n := t181.length) (c := co8) ?_).2.2; exact (by (with_reducible repeat (first | apply Kd.R_alloc | apply Kd.R_drewN | apply Kd.R_drew)); exact (Kd.R_mono (Kd.R_far (p := ⟨gb190, 0, none⟩) (Kd.R_types HO183.out BK190.out (by decide)) (fun _ hk => hk.2) (.slice Ao12 t186.length co12)) (fun _ h_ => h_.1)))); (case side4 => exact (Kd.R_reads' HO183.out).2.1); rintro e w24 ⟨rfl, hb⟩; refine ⟨_, rfl, ?_⟩; have n0_ := Aside0.mk (Kd.R_below (by (with_reducible repeat (first | apply Kd.R_alloc | apply Kd.R_drewN | apply Kd.R_drew)); exact (Kd.R_mono (Kd.R_far (p := ⟨gb190, 0, none⟩) (Kd.R_types HO183.out BK190.out (by decide)) (fun _ hk => hk.2) (.slice Ao12 t186.length co12)) (fun _ h_ => h_.1))) hb); have n1_ := Aside0.mk (Kd.R_below (by (with_reducible repeat (first | apply Kd.R_alloc | apply Kd.R_drewN | apply Kd.R_drew)); exact (Kd.R_mono (Kd.R_far (p := ⟨gb190, 0, none⟩) (Kd.R_types HO188.out BK190.out (by decide)) (fun _ hk => hk.2) (.slice Ao12 t186.length co12)) (fun _ h_ => h_.1))) hb); have n2_ := Aside0.mk (blk_below (g := gb185) (o := .cells #[.slice Ao8 t181.length co8] 43 (0, 0)) (by (with_reducible repeat (first | refine blk_drewN ?_ _ | refine blk_drew ?_ | refine blk_alloc ?_ _)); refine blk_far ?_ NB185_190.out _; (with_reducible repeat (first | refine blk_drewN ?_ _ | refine blk_drew ?_ | refine blk_alloc ?_ _)); exact BK185.out) hb); have n3_ := Aside0.mk (blk_below (g := gb190) (o := .cells #[.slice Ao12 t186.length co12] 43 (0, 0)) (by (with_reducible repeat (first | refine blk_drewN ?_ _ | refine blk_drew ?_ | refine blk_alloc ?_ _)); refine blk_put (cs := #[.slice none 0 0]) ?_ 0 _ rfl; (with_reducible repeat (first | refine blk_drewN ?_ _ | refine blk_drew ?_ | refine blk_alloc ?_ _)); exact BK190.out) hb); have n4_ := Aside0.mk (below_step (by repeat (first | (with_reducible first | exact HB.out | apply below_alloc | apply pw_below_drewN | apply below_drew1 | refine below_set ?_ GE185.out | refine below_set ?_ GE190.out) | exact HB.out)) hb); clear HO183; clear HO188; clear BK185; clear BK190; clear HB; have HO183 := n0_; have HO188 := n1_; have BK185 := n2_; have BK190 := n3_; have HB := n4_; clear n0_ n1_ n2_ n3_ n4_; (try clear hb); (try clear hb2); (try clear hk); (try clear hi)))
        go_meet
        case rel => exact ⟨_, (true), (by first | rfl | (simp; done) | (simp [*]; done)), H', ⟨by first | omega | exact Nat.le_refl _⟩, ⟨by (with_reducible repeat (first | apply Kd.R_alloc | apply Kd.R_drewN | apply Kd.R_drew)); exact Kd.R_mono HO183.out (fun _ hk => hk.2)⟩, ⟨by (with_reducible repeat (first | apply Kd.R_alloc | apply Kd.R_drewN | apply Kd.R_drew)); exact Kd.R_mono HO188.out (fun _ hk => hk.2)⟩, ⟨by (with_reducible repeat (first | refine blk_drewN ?_ _ | refine blk_drew ?_ | refine blk_alloc ?_ _)); exact BK185.out⟩, ⟨by (with_reducible repeat (first | refine blk_drewN ?_ _ | refine blk_drew ?_ | refine blk_alloc ?_ _)); exact BK190.out⟩, ⟨by repeat (first | (with_reducible first | exact HB.out | apply below_alloc | apply pw_below_drewN | apply below_drew1 | refine below_set ?_ GE185.out | refine below_set ?_ GE190.out) | exact HB.out)⟩⟩
    case rest =>
      clear HC5
      try clear c1
      try clear c2
      try clear c2b0
      try clear c2b1
      try clear p2
      try clear c3
      try clear c6
      try clear c13
      try clear c16
      try clear c17
      try clear c21
      try clear hcz14_0
      try clear hcz18_0
      try clear hcz19_0
      try clear hcz22_0
      try clear hcz23_0
      try clear hcz9_0
      try clear hfz14_0
      try clear hfz18_0
      try clear hfz19_0
      try clear hfz22_0
      try clear hfz23_0
      try clear hfz9_0
      obtain ⟨kq, x32_4, rfl, HA, HJ4, HO_186000, HO_191000, BK185, BK190, HB⟩ := hcut
      cases kq with
      | zero => exact absurd HA.out (by simp [laws_FnExactDecodeHeap.j0])
      | succ kj4 =>
        have H := HA.out
        clear HA
        simp only [laws_FnExactDecodeHeap.j0] at H
        by_cases c25 : x32_4 = true
        · subst c25
          have H1 : (some false) = some r := by rw [if_pos rfl] at H; exact H
          clear H
          have H := H1
          clear H1
          obtain rfl := Option.some.inj H
          go_wp2
          go_ret
          exact ⟨by first | rfl | (simp [errW_none, errW_some] <;> rfl) | (simp [*, errW_none, errW_some] <;> rfl), by repeat (first | (with_reducible first | exact HB.out | apply below_alloc | apply pw_below_drewN | apply below_drew1 | refine below_set ?_ GE185.out | refine below_set ?_ GE190.out) | exact HB.out)⟩
        · replace c25 := Bool.eq_false_iff.mpr c25
          subst c25
          have H1 : ((laws_markNameHeap.f kj4 t186 1).bind fun bt192 => ((laws_heldNameHeap.f kj4 bt192.2 1).bind fun t194 => (if t194 < 0 then (some false) else (if t194 = bt192.1 then ((impl_DecodeHeap.f kj4 a0).bind fun bt195 => ((laws_eqNameHeap.f kj4 bt195.1 t181).bind fun t200 => (if t200 = true then (laws_FnExactDecodeHeap.j1 kj4 bt192.1 (bt195.2 != t184) bt192.2) else (laws_FnExactDecodeHeap.j1 kj4 bt192.1 true bt192.2)))) else (some false))))) = some r := by rw [if_neg (show ¬ (false = true) by decide)] at H; exact H
          clear H
          have H := H1
          clear H1
          replace H := Option.bind_eq_some_iff.mp H
          obtain ⟨⟨t192, t193⟩, A260, H⟩ := H
          replace H : ((laws_heldNameHeap.f kj4 t193 1).bind fun t194 => (if t194 < 0 then (some false) else (if t194 = t192 then ((impl_DecodeHeap.f kj4 a0).bind fun bt195 => ((laws_eqNameHeap.f kj4 bt195.1 t181).bind fun t200 => (if t200 = true then (laws_FnExactDecodeHeap.j1 kj4 t192 (bt195.2 != t184) t193) else (laws_FnExactDecodeHeap.j1 kj4 t192 true t193)))) else (some false)))) = some r := H
          have A26 := Aside0.mk A260
          clear A260
          replace H := Option.bind_eq_some_iff.mp H
          obtain ⟨t194, A270, H⟩ := H
          replace H : (if t194 < 0 then (some false) else (if t194 = t192 then ((impl_DecodeHeap.f kj4 a0).bind fun bt195 => ((laws_eqNameHeap.f kj4 bt195.1 t181).bind fun t200 => (if t200 = true then (laws_FnExactDecodeHeap.j1 kj4 t192 (bt195.2 != t184) t193) else (laws_FnExactDecodeHeap.j1 kj4 t192 true t193)))) else (some false))) = some r := H
          have A27 := Aside0.mk A270
          clear A270
          by_cases c28 : t194 < 0
          · rw [if_pos c28] at H
            have c28b0 : decide (t194 < 0) = true := decide_eq_true c28
            clear c28
            obtain rfl := Option.some.inj H
            have hnb29 := NB190_185.out
            have hnc29 := NB185_190.out
            have hcz30_0 : wc.cell? ⟨gb190, 0, none⟩ = some (.slice Ao12 t186.length co12) := (blk_cell BK190.out 0).trans rfl
            have hfz30_0 := blk_frozen BK190.out 0
            go_wp2_with (first | ((with_reducible refine gate_callee (f := 32) rfl ?_); refine goesL_ (some 35) rfl rfl Try.func32 (by kernel_rfl) rfl #[.agg #[.slice Ao12 t186.length co12], .int .i64 1] rfl (by (try simp only [List.map_toArray, List.map_cons, List.map_nil]); first | done | rfl | (simp only [List.length_drop, List.length_take]; rfl)) ?_; (with_reducible refine (laws_markNameHeap.calls kj4 (fun k_ => some k_ = (.slice Ao12 t186.length co12 : Value).ownBlock) (.slice Ao12 t186.length co12) t186 1 t192 t193 w _ ?side1 ?side2 A26.out).mono ?_); (case side1 => repeat (first | (with_reducible first | exact HB.out | apply below_alloc | apply pw_below_drewN | apply below_drew1 | refine below_set ?_ GE185.out | refine below_set ?_ GE190.out) | exact HB.out)); (case side2 => exact Kd.R_tight rfl HO_191000.out); rintro e w31 ⟨rfl, hy0, hb, hkp⟩; refine ⟨_, rfl, ?_⟩; have n0_ := Aside0.mk (Kd.R_mono (ok' := fun k_ => some k_ ≠ (.slice Ao12 t186.length co12 : Value).ownBlock) (Kd.R_keptB (HO_186000.out) hkp (fun k_ hk_ hs_ => (hk_) hs_)) (fun k_ hk_ => hk_.1)); have n1_ := Aside0.mk (Kd.R_reok rfl hy0 (fun k_ e_ => HO_191000.out.1 k_ e_)); have n2_ := Aside0.mk (blk_kept (by (with_reducible repeat (first | refine blk_drewN ?_ _ | refine blk_drew ?_ | refine blk_alloc ?_ _)); exact BK185.out) hkp (fun hs_ => (fun e_ => (Kd.R_ne HO_191000.out BK185.out (by decide)) e_) hs_)); have n3_ := Aside0.mk (blk_kept (by (with_reducible repeat (first | refine blk_drewN ?_ _ | refine blk_drew ?_ | refine blk_alloc ?_ _)); exact BK190.out) hkp (fun hs_ => (fun e_ => (Kd.R_ne HO_191000.out BK190.out (by decide)) e_) hs_)); have n4_ := Aside0.mk (hb); clear HO_186000; clear HO_191000; clear BK185; clear BK190; clear HB; have HO_186000 := n0_; have HO_191000 := n1_; have BK185 := n2_; have BK190 := n3_; have HB := n4_; clear n0_ n1_ n2_ n3_ n4_; (try clear hb); (try clear hkp); (try clear hy0); have hcz32_0 : w31.cell? ⟨gb190, 0, none⟩ = some (.slice Ao12 t186.length co12) := (blk_cell BK190.out 0).trans rfl; have hfz32_0 := blk_frozen BK190.out 0) | ((with_reducible refine gate_callee (f := 33) rfl ?_); refine goesL_ (some 38) rfl rfl Try.func33 (by kernel_rfl) rfl #[.agg #[.slice Ao12 t193.length co12], .int .i64 1] rfl (by (try simp only [List.map_toArray, List.map_cons, List.map_nil]); first | done | (rw [show t193.length = t186.length from (Kd.R_reads' HO_191000.out).1.symm] <;> rfl) | rfl | (simp only [List.length_drop, List.length_take]; rfl)) ?_; (with_reducible refine (laws_heldNameHeap.calls kj4 _ _ t193 1 t194 _ ?side1 ?side2 A27.out).mono ?_); (case side1 => repeat (first | exact (Kd.R_reads' HO_191000.out).2.2 | (with_reducible refine Kd.C_alloc ?_ _) | (with_reducible refine Kd.C_drewN ?_ _) | (with_reducible refine Kd.C_drew ?_))); (case side2 => rw [show t193.length = t186.length from (Kd.R_reads' HO_191000.out).1.symm]; exact (Kd.R_reads' HO_191000.out).2.1); rintro e w33 ⟨rfl, hb⟩; refine ⟨_, rfl, ?_⟩; have n0_ := Aside0.mk (Kd.R_below (by (with_reducible repeat (first | apply Kd.R_alloc | apply Kd.R_drewN | apply Kd.R_drew)); exact HO_186000.out) hb); have n1_ := Aside0.mk (Kd.R_below (by (with_reducible repeat (first | apply Kd.R_alloc | apply Kd.R_drewN | apply Kd.R_drew)); exact HO_191000.out) hb); have n2_ := Aside0.mk (blk_below (g := gb185) (o := .cells #[.slice Ao8 t181.length co8] 43 (0, 0)) (by (with_reducible repeat (first | refine blk_drewN ?_ _ | refine blk_drew ?_ | refine blk_alloc ?_ _)); exact BK185.out) hb); have n3_ := Aside0.mk (blk_below (g := gb190) (o := .cells #[.slice Ao12 t186.length co12] 43 (0, 0)) (by (with_reducible repeat (first | refine blk_drewN ?_ _ | refine blk_drew ?_ | refine blk_alloc ?_ _)); exact BK190.out) hb); have n4_ := Aside0.mk (below_step (by repeat (first | (with_reducible first | exact HB.out | apply below_alloc | apply pw_below_drewN | apply below_drew1 | refine below_set ?_ GE185.out | refine below_set ?_ GE190.out) | exact HB.out)) hb); clear HO_186000; clear HO_191000; clear BK185; clear BK190; clear HB; have HO_186000 := n0_; have HO_191000 := n1_; have BK185 := n2_; have BK190 := n3_; have HB := n4_; clear n0_ n1_ n2_ n3_ n4_; (try clear hb); (try clear hb2); (try clear hk); (try clear hi)))
            go_ret
            exact ⟨by first | rfl | (simp [errW_none, errW_some] <;> rfl) | (simp [*, errW_none, errW_some] <;> rfl), by repeat (first | (with_reducible first | exact HB.out | apply below_alloc | apply pw_below_drewN | apply below_drew1 | refine below_set ?_ GE185.out | refine below_set ?_ GE190.out) | exact HB.out)⟩
          · rw [if_neg c28] at H
            have c28b0 : decide (t194 < 0) = false := decide_eq_false c28
            clear c28
            by_cases c34 : t194 = t192
            · rw [if_pos c34] at H
              have c34b0 : (t194 == t192) = true := beq_iff_eq.mpr c34
              have c34b1 : (t194 != t192) = false := bne_eq_false_iff_eq.mpr c34
              clear c34
              replace H := Option.bind_eq_some_iff.mp H
              obtain ⟨⟨t195, t198⟩, A350, H⟩ := H
              replace H : ((laws_eqNameHeap.f kj4 t195 t181).bind fun t200 => (if t200 = true then (laws_FnExactDecodeHeap.j1 kj4 t192 (t198 != t184) t193) else (laws_FnExactDecodeHeap.j1 kj4 t192 true t193))) = some r := H
              have A35 := Aside0.mk A350
              clear A350
              have HC36 := Aside0.mk H
              clear H
              have hnb37 := NB190_185.out
              have hnc37 := NB185_190.out
              have hcz38_0 : wc.cell? ⟨gb190, 0, none⟩ = some (.slice Ao12 t186.length co12) := (blk_cell BK190.out 0).trans rfl
              have hfz38_0 := blk_frozen BK190.out 0
              go_upto_region 16 with (first | ((with_reducible refine gate_callee (f := 32) rfl ?_); refine goesL_ (some 35) rfl rfl Try.func32 (by kernel_rfl) rfl #[.agg #[.slice Ao12 t186.length co12], .int .i64 1] rfl (by (try simp only [List.map_toArray, List.map_cons, List.map_nil]); first | done | rfl | (simp only [List.length_drop, List.length_take]; rfl)) ?_; (with_reducible refine (laws_markNameHeap.calls kj4 (fun k_ => some k_ = (.slice Ao12 t186.length co12 : Value).ownBlock) (.slice Ao12 t186.length co12) t186 1 t192 t193 w _ ?side1 ?side2 A26.out).mono ?_); (case side1 => repeat (first | (with_reducible first | exact HB.out | apply below_alloc | apply pw_below_drewN | apply below_drew1 | refine below_set ?_ GE185.out | refine below_set ?_ GE190.out) | exact HB.out)); (case side2 => exact Kd.R_tight rfl HO_191000.out); rintro e w39 ⟨rfl, hy0, hb, hkp⟩; refine ⟨_, rfl, ?_⟩; have n0_ := Aside0.mk (Kd.R_mono (ok' := fun k_ => some k_ ≠ (.slice Ao12 t186.length co12 : Value).ownBlock) (Kd.R_keptB (HO_186000.out) hkp (fun k_ hk_ hs_ => (hk_) hs_)) (fun k_ hk_ => hk_.1)); have n1_ := Aside0.mk (Kd.R_reok rfl hy0 (fun k_ e_ => HO_191000.out.1 k_ e_)); have n2_ := Aside0.mk (blk_kept (by (with_reducible repeat (first | refine blk_drewN ?_ _ | refine blk_drew ?_ | refine blk_alloc ?_ _)); exact BK185.out) hkp (fun hs_ => (fun e_ => (Kd.R_ne HO_191000.out BK185.out (by decide)) e_) hs_)); have n3_ := Aside0.mk (blk_kept (by (with_reducible repeat (first | refine blk_drewN ?_ _ | refine blk_drew ?_ | refine blk_alloc ?_ _)); exact BK190.out) hkp (fun hs_ => (fun e_ => (Kd.R_ne HO_191000.out BK190.out (by decide)) e_) hs_)); have n4_ := Aside0.mk (hb); clear HO_186000; clear HO_191000; clear BK185; clear BK190; clear HB; have HO_186000 := n0_; have HO_191000 := n1_; have BK185 := n2_; have BK190 := n3_; have HB := n4_; clear n0_ n1_ n2_ n3_ n4_; (try clear hb); (try clear hkp); (try clear hy0); have hcz40_0 : w39.cell? ⟨gb190, 0, none⟩ = some (.slice Ao12 t186.length co12) := (blk_cell BK190.out 0).trans rfl; have hfz40_0 := blk_frozen BK190.out 0) | ((with_reducible refine gate_callee (f := 33) rfl ?_); refine goesL_ (some 38) rfl rfl Try.func33 (by kernel_rfl) rfl #[.agg #[.slice Ao12 t193.length co12], .int .i64 1] rfl (by (try simp only [List.map_toArray, List.map_cons, List.map_nil]); first | done | (rw [show t193.length = t186.length from (Kd.R_reads' HO_191000.out).1.symm] <;> rfl) | rfl | (simp only [List.length_drop, List.length_take]; rfl)) ?_; (with_reducible refine (laws_heldNameHeap.calls kj4 _ _ t193 1 t194 _ ?side1 ?side2 A27.out).mono ?_); (case side1 => repeat (first | exact (Kd.R_reads' HO_191000.out).2.2 | (with_reducible refine Kd.C_alloc ?_ _) | (with_reducible refine Kd.C_drewN ?_ _) | (with_reducible refine Kd.C_drew ?_))); (case side2 => rw [show t193.length = t186.length from (Kd.R_reads' HO_191000.out).1.symm]; exact (Kd.R_reads' HO_191000.out).2.1); rintro e w41 ⟨rfl, hb⟩; refine ⟨_, rfl, ?_⟩; have n0_ := Aside0.mk (Kd.R_below (by (with_reducible repeat (first | apply Kd.R_alloc | apply Kd.R_drewN | apply Kd.R_drew)); exact HO_186000.out) hb); have n1_ := Aside0.mk (Kd.R_below (by (with_reducible repeat (first | apply Kd.R_alloc | apply Kd.R_drewN | apply Kd.R_drew)); exact HO_191000.out) hb); have n2_ := Aside0.mk (blk_below (g := gb185) (o := .cells #[.slice Ao8 t181.length co8] 43 (0, 0)) (by (with_reducible repeat (first | refine blk_drewN ?_ _ | refine blk_drew ?_ | refine blk_alloc ?_ _)); exact BK185.out) hb); have n3_ := Aside0.mk (blk_below (g := gb190) (o := .cells #[.slice Ao12 t186.length co12] 43 (0, 0)) (by (with_reducible repeat (first | refine blk_drewN ?_ _ | refine blk_drew ?_ | refine blk_alloc ?_ _)); exact BK190.out) hb); have n4_ := Aside0.mk (below_step (by repeat (first | (with_reducible first | exact HB.out | apply below_alloc | apply pw_below_drewN | apply below_drew1 | refine below_set ?_ GE185.out | refine below_set ?_ GE190.out) | exact HB.out)) hb); clear HO_186000; clear HO_191000; clear BK185; clear BK190; clear HB; have HO_186000 := n0_; have HO_191000 := n1_; have BK185 := n2_; have BK190 := n3_; have HB := n4_; clear n0_ n1_ n2_ n3_ n4_; (try clear hb); (try clear hb2); (try clear hk); (try clear hi)) | ((with_reducible refine gate_callee (f := 30) rfl ?_); refine goesL_ (some 46) rfl rfl Try.func30 (by kernel_rfl) rfl #[.string a0] rfl (by (try simp only [List.map_toArray, List.map_cons, List.map_nil]); first | done | rfl | (simp only [List.length_drop, List.length_take]; rfl)) ?_; (with_reducible refine (impl_DecodeHeap.calls kj4 a0 t195 t198 _ A35.out).mono ?_); rintro e w42 ⟨v196, rfl, ho0, hb⟩; refine ⟨_, rfl, ?_⟩; have n0_ := Aside0.mk (Kd.R_elder' (by (with_reducible repeat (first | apply Kd.R_alloc | apply Kd.R_drewN | apply Kd.R_drew)); exact HO_186000.out) (Kd.R_base ho0) hb); have n1_ := Aside0.mk (Kd.R_elder' (by (with_reducible repeat (first | apply Kd.R_alloc | apply Kd.R_drewN | apply Kd.R_drew)); exact HO_191000.out) (Kd.R_base ho0) hb); have n2_ := Aside0.mk (Kd.R_lower (Kd.R_new' (Kd.R_new' ho0 (Kd.R_lt (by (with_reducible repeat (first | apply Kd.R_alloc | apply Kd.R_drewN | apply Kd.R_drew)); exact HO_186000.out))) (Kd.R_lt (by (with_reducible repeat (first | apply Kd.R_alloc | apply Kd.R_drewN | apply Kd.R_drew)); exact HO_191000.out))) (below_size (by repeat (first | (with_reducible first | exact HB.out | apply below_alloc | apply pw_below_drewN | apply below_drew1 | refine below_set ?_ GE185.out | refine below_set ?_ GE190.out) | exact HB.out)))); have n3_ := Aside0.mk (blk_below (g := gb185) (o := .cells #[.slice Ao8 t181.length co8] 43 (0, 0)) (by (with_reducible repeat (first | refine blk_drewN ?_ _ | refine blk_drew ?_ | refine blk_alloc ?_ _)); exact BK185.out) hb); have n4_ := Aside0.mk (blk_below (g := gb190) (o := .cells #[.slice Ao12 t186.length co12] 43 (0, 0)) (by (with_reducible repeat (first | refine blk_drewN ?_ _ | refine blk_drew ?_ | refine blk_alloc ?_ _)); exact BK190.out) hb); have n5_ := Aside0.mk (below_step (by repeat (first | (with_reducible first | exact HB.out | apply below_alloc | apply pw_below_drewN | apply below_drew1 | refine below_set ?_ GE185.out | refine below_set ?_ GE190.out) | exact HB.out)) hb); clear HO_186000; clear HO_191000; clear BK185; clear BK190; clear HB; have HO_186000 := n0_; have HO_191000 := n1_; have HO197 := n2_; have BK185 := n3_; have BK190 := n4_; have HB := n5_; clear n0_ n1_ n2_ n3_ n4_ n5_; (try clear hb); (try clear hb2); (try clear hk); (try clear hi); (try clear ho0)) | ((with_reducible refine gate_dst (N := 9) rfl ?_); refine box_event ?hg (N := 9) ?hd (cs := #[.slice none 0 0]) (t := 43) ?hr ?_; (case hd => rfl); (case hg => rfl); (case hr => first | (go_simp; done) | (go_simp; rfl)); intro gb199 hg w43 hbox hb; have n0_ := Aside0.mk (Kd.R_below (by (with_reducible repeat (first | apply Kd.R_alloc | apply Kd.R_drewN | apply Kd.R_drew)); exact HO_186000.out) hb); have n1_ := Aside0.mk (Kd.R_below (by (with_reducible repeat (first | apply Kd.R_alloc | apply Kd.R_drewN | apply Kd.R_drew)); exact HO_191000.out) hb); have n2_ := Aside0.mk (Kd.R_below (by (with_reducible repeat (first | apply Kd.R_alloc | apply Kd.R_drewN | apply Kd.R_drew)); exact HO197.out) hb); have n3_ := Aside0.mk (blk_below (g := gb185) (o := .cells #[.slice Ao8 t181.length co8] 43 (0, 0)) (by (with_reducible repeat (first | refine blk_drewN ?_ _ | refine blk_drew ?_ | refine blk_alloc ?_ _)); exact BK185.out) hb); have n4_ := Aside0.mk (blk_below (g := gb190) (o := .cells #[.slice Ao12 t186.length co12] 43 (0, 0)) (by (with_reducible repeat (first | refine blk_drewN ?_ _ | refine blk_drew ?_ | refine blk_alloc ?_ _)); exact BK190.out) hb); have n5_ := Aside0.mk (below_step (by repeat (first | (with_reducible first | exact HB.out | apply below_alloc | apply pw_below_drewN | apply below_drew1 | refine below_set ?_ GE185.out | refine below_set ?_ GE190.out) | exact HB.out)) hb); have n6_ := Aside0.mk (hbox); have n7_ := Aside0.mk ((by rw [hg]; exact (below_size (by repeat (first | (with_reducible first | exact HB.out | apply below_alloc | apply pw_below_drewN | apply below_drew1 | refine below_set ?_ GE185.out | refine below_set ?_ GE190.out) | exact HB.out))) : w.heap.size ≤ gb199)); have n8_ := Aside0.mk ((by rw [hg]; exact (below_size (by repeat (first | (with_reducible first | exact HB.out | apply below_alloc | apply pw_below_drewN | apply below_drew1 | refine below_set ?_ GE185.out | refine below_set ?_ GE190.out) | exact HB.out))) : w.heap.size ≤ gb199)); have n9_ := Aside0.mk ((by rw [hg]; exact Nat.ne_of_lt (blk_lt (g := gb185) (o := .cells #[.slice Ao8 t181.length co8] 43 (0, 0)) (by (with_reducible repeat (first | refine blk_drewN ?_ _ | refine blk_drew ?_ | refine blk_alloc ?_ _)); exact BK185.out)) : gb185 ≠ gb199)); have n10_ := Aside0.mk ((by rw [hg]; exact Nat.ne_of_gt (blk_lt (g := gb185) (o := .cells #[.slice Ao8 t181.length co8] 43 (0, 0)) (by (with_reducible repeat (first | refine blk_drewN ?_ _ | refine blk_drew ?_ | refine blk_alloc ?_ _)); exact BK185.out)) : gb199 ≠ gb185)); have n11_ := Aside0.mk ((by rw [hg]; exact Nat.ne_of_lt (blk_lt (g := gb190) (o := .cells #[.slice Ao12 t186.length co12] 43 (0, 0)) (by (with_reducible repeat (first | refine blk_drewN ?_ _ | refine blk_drew ?_ | refine blk_alloc ?_ _)); exact BK190.out)) : gb190 ≠ gb199)); have n12_ := Aside0.mk ((by rw [hg]; exact Nat.ne_of_gt (blk_lt (g := gb190) (o := .cells #[.slice Ao12 t186.length co12] 43 (0, 0)) (by (with_reducible repeat (first | refine blk_drewN ?_ _ | refine blk_drew ?_ | refine blk_alloc ?_ _)); exact BK190.out)) : gb199 ≠ gb190)); clear HO_186000; clear HO_191000; clear HO197; clear BK185; clear BK190; clear HB; have HO_186000 := n0_; have HO_191000 := n1_; have HO197 := n2_; have BK185 := n3_; have BK190 := n4_; have HB := n5_; have BK199 := n6_; have GW199 := n7_; have GE199 := n8_; have NB185_199 := n9_; have NB199_185 := n10_; have NB190_199 := n11_; have NB199_190 := n12_; clear n0_ n1_ n2_ n3_ n4_ n5_ n6_ n7_ n8_ n9_ n10_ n11_ n12_; clear hb hbox hg; obtain ⟨Ao44, co44, eo44⟩ := Kd.R_slice HO197.out; subst eo44; have hnb45 := NB199_185.out; have hnc45 := NB185_199.out; have hnb46 := NB199_190.out; have hnc46 := NB190_199.out; have hcz47_0 : w43.cell? ⟨gb199, 0, none⟩ = some (.slice none 0 0) := (blk_cell BK199.out 0).trans rfl; have hfz47_0 := blk_frozen BK199.out 0))
              (try simp only [Act.put, List.setIfInBounds_toArray, List.set_cons_zero, List.set_cons_succ])
              go_cut [57] (fun v57 wc => ∃ (kq : Nat) (x57_35 : Bool), v57 = .bool x57_35 ∧ Aside0 (laws_FnExactDecodeHeap.j1 kq t192 x57_35 t193 = some r) ∧ Aside0 (kq ≤ kj4) ∧ Aside0 (Kd.R Kd.string 9 wc w.heap.size (fun k_ => some k_ ≠ ((.slice Ao12 t186.length co12) : Value).ownBlock ∧ some k_ ≠ ((.slice Ao44 t195.length co44) : Value).ownBlock) (.slice Ao8 t181.length co8) t181) ∧ Aside0 (Kd.R Kd.string 9 wc w.heap.size (fun k_ => some k_ ≠ ((.slice Ao8 t181.length co8) : Value).ownBlock ∧ some k_ ≠ ((.slice Ao44 t195.length co44) : Value).ownBlock) (.slice Ao12 t186.length co12) t193) ∧ Aside0 (Kd.R Kd.string 9 wc w.heap.size (fun k_ => some k_ ≠ ((.slice Ao8 t181.length co8) : Value).ownBlock ∧ some k_ ≠ ((.slice Ao12 t186.length co12) : Value).ownBlock) (.slice Ao44 t195.length co44) t195) ∧ Aside0 (wc.heap[gb185]? = some (.cells #[(.slice Ao8 t181.length co8)] 43 (0, 0))) ∧ Aside0 (wc.heap[gb190]? = some (.cells #[(.slice Ao12 t186.length co12)] 43 (0, 0))) ∧ Aside0 (wc.heap[gb199]? = some (.cells #[(.slice Ao44 t195.length co44)] 43 (0, 0))) ∧ Aside0 (Below w.heap.size w wc))
              case first =>
                have H := HC36.out
                clear HC36
                replace H := Option.bind_eq_some_iff.mp H
                obtain ⟨t200, A480, H⟩ := H
                replace H : (if t200 = true then (laws_FnExactDecodeHeap.j1 kj4 t192 (t198 != t184) t193) else (laws_FnExactDecodeHeap.j1 kj4 t192 true t193)) = some r := H
                have A48 := Aside0.mk A480
                clear A480
                by_cases c49 : t200 = true
                · subst c49
                  have H1 : (laws_FnExactDecodeHeap.j1 kj4 t192 (t198 != t184) t193) = some r := by rw [if_pos rfl] at H; exact H
                  clear H
                  have H := H1
                  clear H1
                  have H' := Aside0.mk H
                  clear H
                  have hnb50 := NB199_185.out
                  have hnc50 := NB185_199.out
                  have hnb51 := NB199_190.out
                  have hnc51 := NB190_199.out
                  have hcz52_0 : w43.cell? ⟨gb199, 0, none⟩ = some (.slice none 0 0) := (blk_cell BK199.out 0).trans rfl
                  have hfz52_0 := blk_frozen BK199.out 0
                  have hnb53 := NB185_190.out
                  have hnc53 := NB190_185.out
                  have hcz54_0 : w43.cell? ⟨gb185, 0, none⟩ = some (.slice Ao8 t181.length co8) := (blk_cell BK185.out 0).trans rfl
                  have hfz54_0 := blk_frozen BK185.out 0
                  go_wp2_with (first | ((with_reducible refine gate_callee (f := 31) rfl ?_); refine goesL_ (some 51) rfl rfl Try.func31 (by kernel_rfl) rfl #[.agg #[.slice Ao44 t195.length co44], .agg #[.slice Ao8 t181.length co8]] rfl (by (try simp only [List.map_toArray, List.map_cons, List.map_nil]); first | done | rfl | (simp only [List.length_drop, List.length_take]; rfl)) ?_; (with_reducible refine (laws_eqNameHeap.calls kj4 _ _ t195 _ _ t181 true _ ?side1 ?side2 ?side3 ?side4 A48.out).mono ?_); (case side1 => refine (Kd.R_reads' (e := 9) (base := w.heap.size) (ok := fun k_ => ((True ∧ some k_ ≠ (.slice Ao8 t181.length co8 : Value).ownBlock) ∧ some k_ ≠ (.slice Ao12 t186.length co12 : Value).ownBlock)) (n := t195.length) (c := co44) ?_).2.2; exact (by (with_reducible repeat (first | apply Kd.R_alloc | apply Kd.R_drewN | apply Kd.R_drew)); exact (Kd.R_mono (Kd.R_far (p := ⟨gb199, 0, none⟩) (Kd.R_types HO197.out BK199.out (by decide)) (fun _ hk => hk.2) (.slice Ao44 t195.length co44)) (fun _ h_ => h_.1)))); (case side2 => exact (Kd.R_reads' HO197.out).2.1); (case side3 => refine (Kd.R_reads' (e := 9) (base := w.heap.size) (ok := fun k_ => (some k_ ≠ (.slice Ao12 t186.length co12 : Value).ownBlock ∧ some k_ ≠ (.slice Ao44 t195.length co44 : Value).ownBlock)) (n := t181.length) (c := co8) ?_).2.2; exact (by (with_reducible repeat (first | apply Kd.R_alloc | apply Kd.R_drewN | apply Kd.R_drew)); exact (Kd.R_mono (Kd.R_far (p := ⟨gb199, 0, none⟩) (Kd.R_types HO_186000.out BK199.out (by decide)) (fun _ hk => hk.2) (.slice Ao44 t195.length co44)) (fun _ h_ => h_.1)))); (case side4 => exact (Kd.R_reads' HO_186000.out).2.1); rintro e w55 ⟨rfl, hb⟩; refine ⟨_, rfl, ?_⟩; have n0_ := Aside0.mk (Kd.R_below (by (with_reducible repeat (first | apply Kd.R_alloc | apply Kd.R_drewN | apply Kd.R_drew)); exact (Kd.R_mono (Kd.R_far (p := ⟨gb199, 0, none⟩) (Kd.R_types HO_186000.out BK199.out (by decide)) (fun _ hk => hk.2) (.slice Ao44 t195.length co44)) (fun _ h_ => h_.1))) hb); have n1_ := Aside0.mk (Kd.R_below (by (with_reducible repeat (first | apply Kd.R_alloc | apply Kd.R_drewN | apply Kd.R_drew)); exact (Kd.R_mono (Kd.R_far (p := ⟨gb199, 0, none⟩) (Kd.R_types HO_191000.out BK199.out (by decide)) (fun _ hk => hk.2) (.slice Ao44 t195.length co44)) (fun _ h_ => h_.1))) hb); have n2_ := Aside0.mk (Kd.R_below (by (with_reducible repeat (first | apply Kd.R_alloc | apply Kd.R_drewN | apply Kd.R_drew)); exact (Kd.R_mono (Kd.R_far (p := ⟨gb199, 0, none⟩) (Kd.R_types HO197.out BK199.out (by decide)) (fun _ hk => hk.2) (.slice Ao44 t195.length co44)) (fun _ h_ => h_.1))) hb); have n3_ := Aside0.mk (blk_below (g := gb185) (o := .cells #[.slice Ao8 t181.length co8] 43 (0, 0)) (by (with_reducible repeat (first | refine blk_drewN ?_ _ | refine blk_drew ?_ | refine blk_alloc ?_ _)); refine blk_far ?_ NB185_199.out _; (with_reducible repeat (first | refine blk_drewN ?_ _ | refine blk_drew ?_ | refine blk_alloc ?_ _)); exact BK185.out) hb); have n4_ := Aside0.mk (blk_below (g := gb190) (o := .cells #[.slice Ao12 t186.length co12] 43 (0, 0)) (by (with_reducible repeat (first | refine blk_drewN ?_ _ | refine blk_drew ?_ | refine blk_alloc ?_ _)); refine blk_far ?_ NB190_199.out _; (with_reducible repeat (first | refine blk_drewN ?_ _ | refine blk_drew ?_ | refine blk_alloc ?_ _)); exact BK190.out) hb); have n5_ := Aside0.mk (blk_below (g := gb199) (o := .cells #[.slice Ao44 t195.length co44] 43 (0, 0)) (by (with_reducible repeat (first | refine blk_drewN ?_ _ | refine blk_drew ?_ | refine blk_alloc ?_ _)); refine blk_put (cs := #[.slice none 0 0]) ?_ 0 _ rfl; (with_reducible repeat (first | refine blk_drewN ?_ _ | refine blk_drew ?_ | refine blk_alloc ?_ _)); exact BK199.out) hb); have n6_ := Aside0.mk (below_step (by repeat (first | (with_reducible first | exact HB.out | apply below_alloc | apply pw_below_drewN | apply below_drew1 | refine below_set ?_ GE185.out | refine below_set ?_ GE190.out | refine below_set ?_ GE199.out) | exact HB.out)) hb); clear HO_186000; clear HO_191000; clear HO197; clear BK185; clear BK190; clear BK199; clear HB; have HO_186000 := n0_; have HO_191000 := n1_; have HO197 := n2_; have BK185 := n3_; have BK190 := n4_; have BK199 := n5_; have HB := n6_; clear n0_ n1_ n2_ n3_ n4_ n5_ n6_; (try clear hb); (try clear hb2); (try clear hk); (try clear hi)))
                  go_meet
                  case rel => exact ⟨_, ((t198 != t184)), (by first | rfl | (simp; done) | (simp [*]; done)), H', ⟨by have := HJ4.out; first | omega | exact Nat.le_refl _⟩, ⟨by (with_reducible repeat (first | apply Kd.R_alloc | apply Kd.R_drewN | apply Kd.R_drew)); exact HO_186000.out⟩, ⟨by (with_reducible repeat (first | apply Kd.R_alloc | apply Kd.R_drewN | apply Kd.R_drew)); exact HO_191000.out⟩, ⟨by (with_reducible repeat (first | apply Kd.R_alloc | apply Kd.R_drewN | apply Kd.R_drew)); exact Kd.R_mono HO197.out (fun _ hk => ⟨hk.1.2, hk.2⟩)⟩, ⟨by (with_reducible repeat (first | refine blk_drewN ?_ _ | refine blk_drew ?_ | refine blk_alloc ?_ _)); exact BK185.out⟩, ⟨by (with_reducible repeat (first | refine blk_drewN ?_ _ | refine blk_drew ?_ | refine blk_alloc ?_ _)); exact BK190.out⟩, ⟨by (with_reducible repeat (first | refine blk_drewN ?_ _ | refine blk_drew ?_ | refine blk_alloc ?_ _)); exact BK199.out⟩, ⟨by repeat (first | (with_reducible first | exact HB.out | apply below_alloc | apply pw_below_drewN | apply below_drew1 | refine below_set ?_ GE185.out | refine below_set ?_ GE190.out | refine below_set ?_ GE199.out) | exact HB.out)⟩⟩
                · replace c49 := Bool.eq_false_iff.mpr c49
                  subst c49
                  have H1 : (laws_FnExactDecodeHeap.j1 kj4 t192 true t193) = some r := by rw [if_neg (show ¬ (false = true) by decide)] at H; exact H
                  clear H
                  have H := H1
                  clear H1
                  have H' := Aside0.mk H
                  clear H
                  have hnb56 := NB199_185.out
                  have hnc56 := NB185_199.out
                  have hnb57 := NB199_190.out
                  have hnc57 := NB190_199.out
                  have hcz58_0 : w43.cell? ⟨gb199, 0, none⟩ = some (.slice none 0 0) := (blk_cell BK199.out 0).trans rfl
                  have hfz58_0 := blk_frozen BK199.out 0
                  have hnb59 := NB185_190.out
                  have hnc59 := NB190_185.out
                  have hcz60_0 : w43.cell? ⟨gb185, 0, none⟩ = some (.slice Ao8 t181.length co8) := (blk_cell BK185.out 0).trans rfl
                  have hfz60_0 := blk_frozen BK185.out 0
                  go_wp2_with (first | ((with_reducible refine gate_callee (f := 31) rfl ?_); refine goesL_ (some 51) rfl rfl Try.func31 (by kernel_rfl) rfl #[.agg #[.slice Ao44 t195.length co44], .agg #[.slice Ao8 t181.length co8]] rfl (by (try simp only [List.map_toArray, List.map_cons, List.map_nil]); first | done | rfl | (simp only [List.length_drop, List.length_take]; rfl)) ?_; (with_reducible refine (laws_eqNameHeap.calls kj4 _ _ t195 _ _ t181 false _ ?side1 ?side2 ?side3 ?side4 A48.out).mono ?_); (case side1 => refine (Kd.R_reads' (e := 9) (base := w.heap.size) (ok := fun k_ => ((True ∧ some k_ ≠ (.slice Ao8 t181.length co8 : Value).ownBlock) ∧ some k_ ≠ (.slice Ao12 t186.length co12 : Value).ownBlock)) (n := t195.length) (c := co44) ?_).2.2; exact (by (with_reducible repeat (first | apply Kd.R_alloc | apply Kd.R_drewN | apply Kd.R_drew)); exact (Kd.R_mono (Kd.R_far (p := ⟨gb199, 0, none⟩) (Kd.R_types HO197.out BK199.out (by decide)) (fun _ hk => hk.2) (.slice Ao44 t195.length co44)) (fun _ h_ => h_.1)))); (case side2 => exact (Kd.R_reads' HO197.out).2.1); (case side3 => refine (Kd.R_reads' (e := 9) (base := w.heap.size) (ok := fun k_ => (some k_ ≠ (.slice Ao12 t186.length co12 : Value).ownBlock ∧ some k_ ≠ (.slice Ao44 t195.length co44 : Value).ownBlock)) (n := t181.length) (c := co8) ?_).2.2; exact (by (with_reducible repeat (first | apply Kd.R_alloc | apply Kd.R_drewN | apply Kd.R_drew)); exact (Kd.R_mono (Kd.R_far (p := ⟨gb199, 0, none⟩) (Kd.R_types HO_186000.out BK199.out (by decide)) (fun _ hk => hk.2) (.slice Ao44 t195.length co44)) (fun _ h_ => h_.1)))); (case side4 => exact (Kd.R_reads' HO_186000.out).2.1); rintro e w61 ⟨rfl, hb⟩; refine ⟨_, rfl, ?_⟩; have n0_ := Aside0.mk (Kd.R_below (by (with_reducible repeat (first | apply Kd.R_alloc | apply Kd.R_drewN | apply Kd.R_drew)); exact (Kd.R_mono (Kd.R_far (p := ⟨gb199, 0, none⟩) (Kd.R_types HO_186000.out BK199.out (by decide)) (fun _ hk => hk.2) (.slice Ao44 t195.length co44)) (fun _ h_ => h_.1))) hb); have n1_ := Aside0.mk (Kd.R_below (by (with_reducible repeat (first | apply Kd.R_alloc | apply Kd.R_drewN | apply Kd.R_drew)); exact (Kd.R_mono (Kd.R_far (p := ⟨gb199, 0, none⟩) (Kd.R_types HO_191000.out BK199.out (by decide)) (fun _ hk => hk.2) (.slice Ao44 t195.length co44)) (fun _ h_ => h_.1))) hb); have n2_ := Aside0.mk (Kd.R_below (by (with_reducible repeat (first | apply Kd.R_alloc | apply Kd.R_drewN | apply Kd.R_drew)); exact (Kd.R_mono (Kd.R_far (p := ⟨gb199, 0, none⟩) (Kd.R_types HO197.out BK199.out (by decide)) (fun _ hk => hk.2) (.slice Ao44 t195.length co44)) (fun _ h_ => h_.1))) hb); have n3_ := Aside0.mk (blk_below (g := gb185) (o := .cells #[.slice Ao8 t181.length co8] 43 (0, 0)) (by (with_reducible repeat (first | refine blk_drewN ?_ _ | refine blk_drew ?_ | refine blk_alloc ?_ _)); refine blk_far ?_ NB185_199.out _; (with_reducible repeat (first | refine blk_drewN ?_ _ | refine blk_drew ?_ | refine blk_alloc ?_ _)); exact BK185.out) hb); have n4_ := Aside0.mk (blk_below (g := gb190) (o := .cells #[.slice Ao12 t186.length co12] 43 (0, 0)) (by (with_reducible repeat (first | refine blk_drewN ?_ _ | refine blk_drew ?_ | refine blk_alloc ?_ _)); refine blk_far ?_ NB190_199.out _; (with_reducible repeat (first | refine blk_drewN ?_ _ | refine blk_drew ?_ | refine blk_alloc ?_ _)); exact BK190.out) hb); have n5_ := Aside0.mk (blk_below (g := gb199) (o := .cells #[.slice Ao44 t195.length co44] 43 (0, 0)) (by (with_reducible repeat (first | refine blk_drewN ?_ _ | refine blk_drew ?_ | refine blk_alloc ?_ _)); refine blk_put (cs := #[.slice none 0 0]) ?_ 0 _ rfl; (with_reducible repeat (first | refine blk_drewN ?_ _ | refine blk_drew ?_ | refine blk_alloc ?_ _)); exact BK199.out) hb); have n6_ := Aside0.mk (below_step (by repeat (first | (with_reducible first | exact HB.out | apply below_alloc | apply pw_below_drewN | apply below_drew1 | refine below_set ?_ GE185.out | refine below_set ?_ GE190.out | refine below_set ?_ GE199.out) | exact HB.out)) hb); clear HO_186000; clear HO_191000; clear HO197; clear BK185; clear BK190; clear BK199; clear HB; have HO_186000 := n0_; have HO_191000 := n1_; have HO197 := n2_; have BK185 := n3_; have BK190 := n4_; have BK199 := n5_; have HB := n6_; clear n0_ n1_ n2_ n3_ n4_ n5_ n6_; (try clear hb); (try clear hb2); (try clear hk); (try clear hi)))
                  go_meet
                  case rel => exact ⟨_, (true), (by first | rfl | (simp; done) | (simp [*]; done)), H', ⟨by have := HJ4.out; first | omega | exact Nat.le_refl _⟩, ⟨by (with_reducible repeat (first | apply Kd.R_alloc | apply Kd.R_drewN | apply Kd.R_drew)); exact HO_186000.out⟩, ⟨by (with_reducible repeat (first | apply Kd.R_alloc | apply Kd.R_drewN | apply Kd.R_drew)); exact HO_191000.out⟩, ⟨by (with_reducible repeat (first | apply Kd.R_alloc | apply Kd.R_drewN | apply Kd.R_drew)); exact Kd.R_mono HO197.out (fun _ hk => ⟨hk.1.2, hk.2⟩)⟩, ⟨by (with_reducible repeat (first | refine blk_drewN ?_ _ | refine blk_drew ?_ | refine blk_alloc ?_ _)); exact BK185.out⟩, ⟨by (with_reducible repeat (first | refine blk_drewN ?_ _ | refine blk_drew ?_ | refine blk_alloc ?_ _)); exact BK190.out⟩, ⟨by (with_reducible repeat (first | refine blk_drewN ?_ _ | refine blk_drew ?_ | refine blk_alloc ?_ _)); exact BK199.out⟩, ⟨by repeat (first | (with_reducible first | exact HB.out | apply below_alloc | apply pw_below_drewN | apply below_drew1 | refine below_set ?_ GE185.out | refine below_set ?_ GE190.out | refine below_set ?_ GE199.out) | exact HB.out)⟩⟩
              case rest =>
                clear HC36
                try clear c1
                try clear c2
                try clear c2b0
                try clear c2b1
                try clear p2
                try clear c3
                try clear c4
                try clear c5
                try clear c6
                try clear c13
                try clear c16
                try clear c17
                try clear c21
                try clear c25
                try clear c28
                try clear c28b0
                try clear c29
                try clear c30
                try clear c31
                try clear c32
                try clear c33
                try clear c34
                try clear c34b0
                try clear c34b1
                try clear c37
                try clear c45
                try clear c46
                try clear c49
                try clear c50
                try clear c51
                try clear c53
                try clear c56
                try clear c57
                try clear c59
                try clear hcz14_0
                try clear hcz18_0
                try clear hcz19_0
                try clear hcz22_0
                try clear hcz23_0
                try clear hcz30_0
                try clear hcz32_0
                try clear hcz38_0
                try clear hcz40_0
                try clear hcz47_0
                try clear hcz52_0
                try clear hcz54_0
                try clear hcz58_0
                try clear hcz60_0
                try clear hcz9_0
                try clear hfz14_0
                try clear hfz18_0
                try clear hfz19_0
                try clear hfz22_0
                try clear hfz23_0
                try clear hfz30_0
                try clear hfz32_0
                try clear hfz38_0
                try clear hfz40_0
                try clear hfz47_0
                try clear hfz52_0
                try clear hfz54_0
                try clear hfz58_0
                try clear hfz60_0
                try clear hfz9_0
                try clear p2
                obtain ⟨kq, x57_35, rfl, HA, HJ35, HO_186000, HO_191000, HO_200000, BK185, BK190, BK199, HB⟩ := hcut
                have hl191000_35 := (Kd.R_reads' HO_191000.out).1
                rw [hl191000_35] at HO_191000
                (try simp only [hl191000_35])
                (try simp only [hl191000_35] at BK185)
                (try simp only [hl191000_35] at BK190)
                (try simp only [hl191000_35] at BK199)
                (try simp only [hl191000_35] at HO_186000)
                (try simp only [hl191000_35] at HO_200000)
                cases kq with
                | zero => exact absurd HA.out (by simp [laws_FnExactDecodeHeap.j1])
                | succ kj35 =>
                  have H := HA.out
                  clear HA
                  simp only [laws_FnExactDecodeHeap.j1] at H
                  by_cases c62 : x57_35 = true
                  · subst c62
                    have H1 : (some false) = some r := by rw [if_pos rfl] at H; exact H
                    clear H
                    have H := H1
                    clear H1
                    obtain rfl := Option.some.inj H
                    go_wp2
                    go_ret
                    exact ⟨by first | rfl | (simp [errW_none, errW_some] <;> rfl) | (simp [*, errW_none, errW_some] <;> rfl), by repeat (first | (with_reducible first | exact HB.out | apply below_alloc | apply pw_below_drewN | apply below_drew1 | refine below_set ?_ GE185.out | refine below_set ?_ GE190.out | refine below_set ?_ GE199.out) | exact HB.out)⟩
                  · replace c62 := Bool.eq_false_iff.mpr c62
                    subst c62
                    have H1 : ((laws_heldNameHeap.f kj35 t193 1).bind fun t201 => (if t201 < 0 then (some false) else (if t201 = t192 then (some true) else (some false)))) = some r := by rw [if_neg (show ¬ (false = true) by decide)] at H; exact H
                    clear H
                    have H := H1
                    clear H1
                    replace H := Option.bind_eq_some_iff.mp H
                    obtain ⟨t201, A630, H⟩ := H
                    replace H : (if t201 < 0 then (some false) else (if t201 = t192 then (some true) else (some false))) = some r := H
                    have A63 := Aside0.mk A630
                    clear A630
                    by_cases c64 : t201 < 0
                    · rw [if_pos c64] at H
                      have c64b0 : decide (t201 < 0) = true := decide_eq_true c64
                      clear c64
                      obtain rfl := Option.some.inj H
                      have hnb65 := NB190_185.out
                      have hnc65 := NB185_190.out
                      have hnb66 := NB190_199.out
                      have hnc66 := NB199_190.out
                      have hcz67_0 : wc.cell? ⟨gb190, 0, none⟩ = some (.slice Ao12 t193.length co12) := (blk_cell BK190.out 0).trans rfl
                      have hfz67_0 := blk_frozen BK190.out 0
                      go_wp2_with (first | ((with_reducible refine gate_callee (f := 33) rfl ?_); refine goesL_ (some 60) rfl rfl Try.func33 (by kernel_rfl) rfl #[.agg #[.slice Ao12 t193.length co12], .int .i64 1] rfl (by (try simp only [List.map_toArray, List.map_cons, List.map_nil]); first | done | rfl | (simp only [List.length_drop, List.length_take]; rfl)) ?_; (with_reducible refine (laws_heldNameHeap.calls kj35 _ _ t193 1 t201 _ ?side1 ?side2 A63.out).mono ?_); (case side1 => repeat (first | exact (Kd.R_reads' HO_191000.out).2.2 | (with_reducible refine Kd.C_alloc ?_ _) | (with_reducible refine Kd.C_drewN ?_ _) | (with_reducible refine Kd.C_drew ?_))); (case side2 => exact (Kd.R_reads' HO_191000.out).2.1); rintro e w68 ⟨rfl, hb⟩; refine ⟨_, rfl, ?_⟩; have n0_ := Aside0.mk (Kd.R_below (by (with_reducible repeat (first | apply Kd.R_alloc | apply Kd.R_drewN | apply Kd.R_drew)); exact HO_186000.out) hb); have n1_ := Aside0.mk (Kd.R_below (by (with_reducible repeat (first | apply Kd.R_alloc | apply Kd.R_drewN | apply Kd.R_drew)); exact HO_191000.out) hb); have n2_ := Aside0.mk (Kd.R_below (by (with_reducible repeat (first | apply Kd.R_alloc | apply Kd.R_drewN | apply Kd.R_drew)); exact HO_200000.out) hb); have n3_ := Aside0.mk (blk_below (g := gb185) (o := .cells #[.slice Ao8 t181.length co8] 43 (0, 0)) (by (with_reducible repeat (first | refine blk_drewN ?_ _ | refine blk_drew ?_ | refine blk_alloc ?_ _)); exact BK185.out) hb); have n4_ := Aside0.mk (blk_below (g := gb190) (o := .cells #[.slice Ao12 t193.length co12] 43 (0, 0)) (by (with_reducible repeat (first | refine blk_drewN ?_ _ | refine blk_drew ?_ | refine blk_alloc ?_ _)); exact BK190.out) hb); have n5_ := Aside0.mk (blk_below (g := gb199) (o := .cells #[.slice Ao44 t195.length co44] 43 (0, 0)) (by (with_reducible repeat (first | refine blk_drewN ?_ _ | refine blk_drew ?_ | refine blk_alloc ?_ _)); exact BK199.out) hb); have n6_ := Aside0.mk (below_step (by repeat (first | (with_reducible first | exact HB.out | apply below_alloc | apply pw_below_drewN | apply below_drew1 | refine below_set ?_ GE185.out | refine below_set ?_ GE190.out | refine below_set ?_ GE199.out) | exact HB.out)) hb); clear HO_186000; clear HO_191000; clear HO_200000; clear BK185; clear BK190; clear BK199; clear HB; have HO_186000 := n0_; have HO_191000 := n1_; have HO_200000 := n2_; have BK185 := n3_; have BK190 := n4_; have BK199 := n5_; have HB := n6_; clear n0_ n1_ n2_ n3_ n4_ n5_ n6_; (try clear hb); (try clear hb2); (try clear hk); (try clear hi)))
                      go_ret
                      exact ⟨by first | rfl | (simp [errW_none, errW_some] <;> rfl) | (simp [*, errW_none, errW_some] <;> rfl), by repeat (first | (with_reducible first | exact HB.out | apply below_alloc | apply pw_below_drewN | apply below_drew1 | refine below_set ?_ GE185.out | refine below_set ?_ GE190.out | refine below_set ?_ GE199.out) | exact HB.out)⟩
                    · rw [if_neg c64] at H
                      have c64b0 : decide (t201 < 0) = false := decide_eq_false c64
                      clear c64
                      by_cases c69 : t201 = t192
                      · rw [if_pos c69] at H
                        have c69b0 : (t201 == t192) = true := beq_iff_eq.mpr c69
                        have c69b1 : (t201 != t192) = false := bne_eq_false_iff_eq.mpr c69
                        clear c69
                        obtain rfl := Option.some.inj H
                        have hnb70 := NB190_185.out
                        have hnc70 := NB185_190.out
                        have hnb71 := NB190_199.out
                        have hnc71 := NB199_190.out
                        have hcz72_0 : wc.cell? ⟨gb190, 0, none⟩ = some (.slice Ao12 t193.length co12) := (blk_cell BK190.out 0).trans rfl
                        have hfz72_0 := blk_frozen BK190.out 0
                        go_wp2_with (first | ((with_reducible refine gate_callee (f := 33) rfl ?_); refine goesL_ (some 60) rfl rfl Try.func33 (by kernel_rfl) rfl #[.agg #[.slice Ao12 t193.length co12], .int .i64 1] rfl (by (try simp only [List.map_toArray, List.map_cons, List.map_nil]); first | done | rfl | (simp only [List.length_drop, List.length_take]; rfl)) ?_; (with_reducible refine (laws_heldNameHeap.calls kj35 _ _ t193 1 t201 _ ?side1 ?side2 A63.out).mono ?_); (case side1 => repeat (first | exact (Kd.R_reads' HO_191000.out).2.2 | (with_reducible refine Kd.C_alloc ?_ _) | (with_reducible refine Kd.C_drewN ?_ _) | (with_reducible refine Kd.C_drew ?_))); (case side2 => exact (Kd.R_reads' HO_191000.out).2.1); rintro e w73 ⟨rfl, hb⟩; refine ⟨_, rfl, ?_⟩; have n0_ := Aside0.mk (Kd.R_below (by (with_reducible repeat (first | apply Kd.R_alloc | apply Kd.R_drewN | apply Kd.R_drew)); exact HO_186000.out) hb); have n1_ := Aside0.mk (Kd.R_below (by (with_reducible repeat (first | apply Kd.R_alloc | apply Kd.R_drewN | apply Kd.R_drew)); exact HO_191000.out) hb); have n2_ := Aside0.mk (Kd.R_below (by (with_reducible repeat (first | apply Kd.R_alloc | apply Kd.R_drewN | apply Kd.R_drew)); exact HO_200000.out) hb); have n3_ := Aside0.mk (blk_below (g := gb185) (o := .cells #[.slice Ao8 t181.length co8] 43 (0, 0)) (by (with_reducible repeat (first | refine blk_drewN ?_ _ | refine blk_drew ?_ | refine blk_alloc ?_ _)); exact BK185.out) hb); have n4_ := Aside0.mk (blk_below (g := gb190) (o := .cells #[.slice Ao12 t193.length co12] 43 (0, 0)) (by (with_reducible repeat (first | refine blk_drewN ?_ _ | refine blk_drew ?_ | refine blk_alloc ?_ _)); exact BK190.out) hb); have n5_ := Aside0.mk (blk_below (g := gb199) (o := .cells #[.slice Ao44 t195.length co44] 43 (0, 0)) (by (with_reducible repeat (first | refine blk_drewN ?_ _ | refine blk_drew ?_ | refine blk_alloc ?_ _)); exact BK199.out) hb); have n6_ := Aside0.mk (below_step (by repeat (first | (with_reducible first | exact HB.out | apply below_alloc | apply pw_below_drewN | apply below_drew1 | refine below_set ?_ GE185.out | refine below_set ?_ GE190.out | refine below_set ?_ GE199.out) | exact HB.out)) hb); clear HO_186000; clear HO_191000; clear HO_200000; clear BK185; clear BK190; clear BK199; clear HB; have HO_186000 := n0_; have HO_191000 := n1_; have HO_200000 := n2_; have BK185 := n3_; have BK190 := n4_; have BK199 := n5_; have HB := n6_; clear n0_ n1_ n2_ n3_ n4_ n5_ n6_; (try clear hb); (try clear hb2); (try clear hk); (try clear hi)))
                        go_ret
                        exact ⟨by first | rfl | (simp [errW_none, errW_some] <;> rfl) | (simp [*, errW_none, errW_some] <;> rfl), by repeat (first | (with_reducible first | exact HB.out | apply below_alloc | apply pw_below_drewN | apply below_drew1 | refine below_set ?_ GE185.out | refine below_set ?_ GE190.out | refine below_set ?_ GE199.out) | exact HB.out)⟩
                      · rw [if_neg c69] at H
                        have c69b0 : (t201 == t192) = false := beq_eq_false_iff_ne.mpr c69
                        have c69b1 : (t201 != t192) = true := bne_iff_ne.mpr c69
                        obtain rfl := Option.some.inj H
                        have hnb74 := NB190_185.out
                        have hnc74 := NB185_190.out
                        have hnb75 := NB190_199.out
                        have hnc75 := NB199_190.out
                        have hcz76_0 : wc.cell? ⟨gb190, 0, none⟩ = some (.slice Ao12 t193.length co12) := (blk_cell BK190.out 0).trans rfl
                        have hfz76_0 := blk_frozen BK190.out 0
                        go_wp2_with (first | ((with_reducible refine gate_callee (f := 33) rfl ?_); refine goesL_ (some 60) rfl rfl Try.func33 (by kernel_rfl) rfl #[.agg #[.slice Ao12 t193.length co12], .int .i64 1] rfl (by (try simp only [List.map_toArray, List.map_cons, List.map_nil]); first | done | rfl | (simp only [List.length_drop, List.length_take]; rfl)) ?_; (with_reducible refine (laws_heldNameHeap.calls kj35 _ _ t193 1 t201 _ ?side1 ?side2 A63.out).mono ?_); (case side1 => repeat (first | exact (Kd.R_reads' HO_191000.out).2.2 | (with_reducible refine Kd.C_alloc ?_ _) | (with_reducible refine Kd.C_drewN ?_ _) | (with_reducible refine Kd.C_drew ?_))); (case side2 => exact (Kd.R_reads' HO_191000.out).2.1); rintro e w77 ⟨rfl, hb⟩; refine ⟨_, rfl, ?_⟩; have n0_ := Aside0.mk (Kd.R_below (by (with_reducible repeat (first | apply Kd.R_alloc | apply Kd.R_drewN | apply Kd.R_drew)); exact HO_186000.out) hb); have n1_ := Aside0.mk (Kd.R_below (by (with_reducible repeat (first | apply Kd.R_alloc | apply Kd.R_drewN | apply Kd.R_drew)); exact HO_191000.out) hb); have n2_ := Aside0.mk (Kd.R_below (by (with_reducible repeat (first | apply Kd.R_alloc | apply Kd.R_drewN | apply Kd.R_drew)); exact HO_200000.out) hb); have n3_ := Aside0.mk (blk_below (g := gb185) (o := .cells #[.slice Ao8 t181.length co8] 43 (0, 0)) (by (with_reducible repeat (first | refine blk_drewN ?_ _ | refine blk_drew ?_ | refine blk_alloc ?_ _)); exact BK185.out) hb); have n4_ := Aside0.mk (blk_below (g := gb190) (o := .cells #[.slice Ao12 t193.length co12] 43 (0, 0)) (by (with_reducible repeat (first | refine blk_drewN ?_ _ | refine blk_drew ?_ | refine blk_alloc ?_ _)); exact BK190.out) hb); have n5_ := Aside0.mk (blk_below (g := gb199) (o := .cells #[.slice Ao44 t195.length co44] 43 (0, 0)) (by (with_reducible repeat (first | refine blk_drewN ?_ _ | refine blk_drew ?_ | refine blk_alloc ?_ _)); exact BK199.out) hb); have n6_ := Aside0.mk (below_step (by repeat (first | (with_reducible first | exact HB.out | apply below_alloc | apply pw_below_drewN | apply below_drew1 | refine below_set ?_ GE185.out | refine below_set ?_ GE190.out | refine below_set ?_ GE199.out) | exact HB.out)) hb); clear HO_186000; clear HO_191000; clear HO_200000; clear BK185; clear BK190; clear BK199; clear HB; have HO_186000 := n0_; have HO_191000 := n1_; have HO_200000 := n2_; have BK185 := n3_; have BK190 := n4_; have BK199 := n5_; have HB := n6_; clear n0_ n1_ n2_ n3_ n4_ n5_ n6_; (try clear hb); (try clear hb2); (try clear hk); (try clear hi)))
                        go_ret
                        exact ⟨by first | rfl | (simp [errW_none, errW_some] <;> rfl) | (simp [*, errW_none, errW_some] <;> rfl), by repeat (first | (with_reducible first | exact HB.out | apply below_alloc | apply pw_below_drewN | apply below_drew1 | refine below_set ?_ GE185.out | refine below_set ?_ GE190.out | refine below_set ?_ GE199.out) | exact HB.out)⟩
            · rw [if_neg c34] at H
              have c34b0 : (t194 == t192) = false := beq_eq_false_iff_ne.mpr c34
              have c34b1 : (t194 != t192) = true := bne_iff_ne.mpr c34
              obtain rfl := Option.some.inj H
              have hnb78 := NB190_185.out
              have hnc78 := NB185_190.out
              have hcz79_0 : wc.cell? ⟨gb190, 0, none⟩ = some (.slice Ao12 t186.length co12) := (blk_cell BK190.out 0).trans rfl
              have hfz79_0 := blk_frozen BK190.out 0
              go_wp2_with (first | ((with_reducible refine gate_callee (f := 32) rfl ?_); refine goesL_ (some 35) rfl rfl Try.func32 (by kernel_rfl) rfl #[.agg #[.slice Ao12 t186.length co12], .int .i64 1] rfl (by (try simp only [List.map_toArray, List.map_cons, List.map_nil]); first | done | rfl | (simp only [List.length_drop, List.length_take]; rfl)) ?_; (with_reducible refine (laws_markNameHeap.calls kj4 (fun k_ => some k_ = (.slice Ao12 t186.length co12 : Value).ownBlock) (.slice Ao12 t186.length co12) t186 1 t192 t193 w _ ?side1 ?side2 A26.out).mono ?_); (case side1 => repeat (first | (with_reducible first | exact HB.out | apply below_alloc | apply pw_below_drewN | apply below_drew1 | refine below_set ?_ GE185.out | refine below_set ?_ GE190.out) | exact HB.out)); (case side2 => exact Kd.R_tight rfl HO_191000.out); rintro e w80 ⟨rfl, hy0, hb, hkp⟩; refine ⟨_, rfl, ?_⟩; have n0_ := Aside0.mk (Kd.R_mono (ok' := fun k_ => some k_ ≠ (.slice Ao12 t186.length co12 : Value).ownBlock) (Kd.R_keptB (HO_186000.out) hkp (fun k_ hk_ hs_ => (hk_) hs_)) (fun k_ hk_ => hk_.1)); have n1_ := Aside0.mk (Kd.R_reok rfl hy0 (fun k_ e_ => HO_191000.out.1 k_ e_)); have n2_ := Aside0.mk (blk_kept (by (with_reducible repeat (first | refine blk_drewN ?_ _ | refine blk_drew ?_ | refine blk_alloc ?_ _)); exact BK185.out) hkp (fun hs_ => (fun e_ => (Kd.R_ne HO_191000.out BK185.out (by decide)) e_) hs_)); have n3_ := Aside0.mk (blk_kept (by (with_reducible repeat (first | refine blk_drewN ?_ _ | refine blk_drew ?_ | refine blk_alloc ?_ _)); exact BK190.out) hkp (fun hs_ => (fun e_ => (Kd.R_ne HO_191000.out BK190.out (by decide)) e_) hs_)); have n4_ := Aside0.mk (hb); clear HO_186000; clear HO_191000; clear BK185; clear BK190; clear HB; have HO_186000 := n0_; have HO_191000 := n1_; have BK185 := n2_; have BK190 := n3_; have HB := n4_; clear n0_ n1_ n2_ n3_ n4_; (try clear hb); (try clear hkp); (try clear hy0); have hcz81_0 : w80.cell? ⟨gb190, 0, none⟩ = some (.slice Ao12 t186.length co12) := (blk_cell BK190.out 0).trans rfl; have hfz81_0 := blk_frozen BK190.out 0) | ((with_reducible refine gate_callee (f := 33) rfl ?_); refine goesL_ (some 38) rfl rfl Try.func33 (by kernel_rfl) rfl #[.agg #[.slice Ao12 t193.length co12], .int .i64 1] rfl (by (try simp only [List.map_toArray, List.map_cons, List.map_nil]); first | done | (rw [show t193.length = t186.length from (Kd.R_reads' HO_191000.out).1.symm] <;> rfl) | rfl | (simp only [List.length_drop, List.length_take]; rfl)) ?_; (with_reducible refine (laws_heldNameHeap.calls kj4 _ _ t193 1 t194 _ ?side1 ?side2 A27.out).mono ?_); (case side1 => repeat (first | exact (Kd.R_reads' HO_191000.out).2.2 | (with_reducible refine Kd.C_alloc ?_ _) | (with_reducible refine Kd.C_drewN ?_ _) | (with_reducible refine Kd.C_drew ?_))); (case side2 => rw [show t193.length = t186.length from (Kd.R_reads' HO_191000.out).1.symm]; exact (Kd.R_reads' HO_191000.out).2.1); rintro e w82 ⟨rfl, hb⟩; refine ⟨_, rfl, ?_⟩; have n0_ := Aside0.mk (Kd.R_below (by (with_reducible repeat (first | apply Kd.R_alloc | apply Kd.R_drewN | apply Kd.R_drew)); exact HO_186000.out) hb); have n1_ := Aside0.mk (Kd.R_below (by (with_reducible repeat (first | apply Kd.R_alloc | apply Kd.R_drewN | apply Kd.R_drew)); exact HO_191000.out) hb); have n2_ := Aside0.mk (blk_below (g := gb185) (o := .cells #[.slice Ao8 t181.length co8] 43 (0, 0)) (by (with_reducible repeat (first | refine blk_drewN ?_ _ | refine blk_drew ?_ | refine blk_alloc ?_ _)); exact BK185.out) hb); have n3_ := Aside0.mk (blk_below (g := gb190) (o := .cells #[.slice Ao12 t186.length co12] 43 (0, 0)) (by (with_reducible repeat (first | refine blk_drewN ?_ _ | refine blk_drew ?_ | refine blk_alloc ?_ _)); exact BK190.out) hb); have n4_ := Aside0.mk (below_step (by repeat (first | (with_reducible first | exact HB.out | apply below_alloc | apply pw_below_drewN | apply below_drew1 | refine below_set ?_ GE185.out | refine below_set ?_ GE190.out) | exact HB.out)) hb); clear HO_186000; clear HO_191000; clear BK185; clear BK190; clear HB; have HO_186000 := n0_; have HO_191000 := n1_; have BK185 := n2_; have BK190 := n3_; have HB := n4_; clear n0_ n1_ n2_ n3_ n4_; (try clear hb); (try clear hb2); (try clear hk); (try clear hi)))
              go_ret
              exact ⟨by first | rfl | (simp [errW_none, errW_some] <;> rfl) | (simp [*, errW_none, errW_some] <;> rfl), by repeat (first | (with_reducible first | exact HB.out | apply below_alloc | apply pw_below_drewN | apply below_drew1 | refine below_set ?_ GE185.out | refine below_set ?_ GE190.out) | exact HB.out)⟩

/-- THE ONE PURE STATEMENT of laws_FnExactDecodeHeap: yours. -/
def laws_FnExactDecodeHeap.Pure : Prop := ∀ (a0 : ByteArray), a0.size ≤ 140737488351232 → ∃ k, laws_FnExactDecodeHeap.f k a0 = some true
theorem laws_FnExactDecodeHeap.walk (P : laws_FnExactDecodeHeap.Pure) (a0 : ByteArray) (w : World) (w0 : a0.size ≤ 140737488351232) :
    Calls Try.prog 6 #[.string a0] w fun e w' => e = .returned (.bool true) ∧ Below w.heap.size w w' := by
  obtain ⟨k, h⟩ := P a0 w0
  refine (laws_FnExactDecodeHeap.calls k a0 true w h).mono ?_
  rintro e w' ⟨rfl, hd⟩
  exact ⟨rfl, hd⟩

end Go.Proofs.Ytlcbbiiohhplfaa.PFnExactDecodeHeap
