/- Laid by a program of this session (mend.py) out of the text that print.sh wrote for this claim: renamed, and mended where it fell in Lean. -/
import Derived.Test.YtpachmimhampfaaMFnKeptx0
import Derived.Test.YtpachmimhampfaaMFnKeptx1
import Derived.Test.YtpachmimhampfaaMFnKeptx2
namespace Go.Proofs.Ytpachmimhampfaa.PFnKept
open Go.RowKit Go.Proofs.YtpachmimhampfaaW.PrintWords Go.Proofs.YtpachmimhampfaaW.PrintLast Go.Proofs.YtpachmimhampfaaW.PrintMore
attribute [local go_sem] max2_int min2_int max_two min_two max_three min_three max_four min_four   -- for this text's walks alone
set_option linter.unusedVariables false
set_option linter.unusedSimpArgs false

/-! ### laws_FnKept: function 8 -/
mutual
def laws_FnKept.j0 : Nat → Int → List Bool → Bool → Option (Bool)
  | 0, _, _, _ => none
  | k + 1, x4, x5, x29 => if x29 = true then (some ((x5.length : Int) == 0)) else (if (x5.length : Int) = x4 then (laws_FnKept.l0 k x4 x5 30) else (some false))
def laws_FnKept.l0 : Nat → Int → List Bool → Int → Option (Bool)
  | 0, _, _, _ => none
  | k + 1, x4, x5, x6 => if x6 < x4 then (if 0 ≤ x6 then (if x6 < (x5.length : Int) then (if 0 ≤ (wrap64 (x6 - 30)) then (if (wrap64 (x6 - 30)) < (x5.length : Int) then (if ((rdOf false x5 x6) != (rdOf false x5 (wrap64 (x6 - 30)))) = true then (some false) else (laws_FnKept.l0 k x4 x5 (wrap64 (x6 + 1)))) else (none)) else (none)) else (none)) else (none)) else ((impl_StandardCuts.f k x4).bind fun t223 => (laws_FnKept.l1 k t223 0))
def laws_FnKept.l1 : Nat → List (S25) → Int → Option (Bool)
  | 0, _, _ => none
  | k + 1, x7, x8 => if x8 < (x7.length : Int) then (if 0 ≤ x8 then ((spec_ValidCut.f ((rd_T25 x7 x8).f0) ((rd_T25 x7 x8).f1) ((rd_T25 x7 x8).f2)).bind fun t227 => (if t227 = true then (laws_FnKept.l1 k x7 (wrap64 (x8 + 1))) else (some false))) else (none)) else (some (decide ((x7.length : Int) ≥ 2)))
end
def laws_FnKept.f (k : Nat) (l0 : List Int) : Option (Bool) := (laws_b10Long.f l0).bind fun t211 => (if t211 = true then (some true) else ((spec_DrawKeptBy.f k l0).bind fun bt212 => ((impl_KeptBy.f k bt212.1 bt212.2.1 bt212.2.2.1 bt212.2.2.2).bind fun t217 => ((spec_ValidCut.f bt212.1 bt212.2.1 bt212.2.2.1).bind fun t220 => (if t220 = true then (if bt212.2.2.2 < 0 then (laws_FnKept.j0 k bt212.2.2.2 t217 true) else (laws_FnKept.j0 k bt212.2.2.2 t217 (decide (bt212.2.2.2 > 600)))) else (laws_FnKept.j0 k bt212.2.2.2 t217 true))))))
theorem laws_FnKept.mono_l : ∀ k, (∀ y0 y1 y2, LeO (laws_FnKept.j0 k y0 y1 y2) (laws_FnKept.j0 (k + 1) y0 y1 y2)) ∧ (∀ y0 y1 y2, LeO (laws_FnKept.l0 k y0 y1 y2) (laws_FnKept.l0 (k + 1) y0 y1 y2)) ∧ (∀ y0 y1, LeO (laws_FnKept.l1 k y0 y1) (laws_FnKept.l1 (k + 1) y0 y1))
  | 0 => ⟨fun _ _ _ r h => by simp [laws_FnKept.j0] at h, fun _ _ _ r h => by simp [laws_FnKept.l0] at h, fun _ _ r h => by simp [laws_FnKept.l1] at h⟩
  | k + 1 => by
    obtain ⟨ih0, ih1, ih2⟩ := laws_FnKept.mono_l k
    refine ⟨?_, ?_, ?_⟩
    · intro y0 y1 y2
      unfold laws_FnKept.j0
      repeat' first
      | (with_reducible exact ih0 _ _ _)
      | (with_reducible exact ih1 _ _ _)
      | (with_reducible exact ih2 _ _)
      | (with_reducible exact impl_KeptBy.mono _ _ _ _ _)
      | (with_reducible exact impl_StandardCuts.mono _ _)
      | (with_reducible exact spec_DrawKeptBy.mono _ _)
      | (with_reducible exact LeO.refl _)
      | (with_reducible exact LeO.none _)
      | (with_reducible refine LeO.ite ?_ ?_)
      | (with_reducible refine LeO.bind ?_ (fun _ => ?_))
      | exact ih0 _ _ _
      | exact ih1 _ _ _
      | exact ih2 _ _
      | exact impl_KeptBy.mono _ _ _ _ _
      | exact impl_StandardCuts.mono _ _
      | exact spec_DrawKeptBy.mono _ _
      | exact LeO.none _
      | refine LeO.ite ?_ ?_
      | refine LeO.bind ?_ (fun _ => ?_)
    · intro y0 y1 y2
      unfold laws_FnKept.l0
      repeat' first
      | (with_reducible exact ih0 _ _ _)
      | (with_reducible exact ih1 _ _ _)
      | (with_reducible exact ih2 _ _)
      | (with_reducible exact impl_KeptBy.mono _ _ _ _ _)
      | (with_reducible exact impl_StandardCuts.mono _ _)
      | (with_reducible exact spec_DrawKeptBy.mono _ _)
      | (with_reducible exact LeO.refl _)
      | (with_reducible exact LeO.none _)
      | (with_reducible refine LeO.ite ?_ ?_)
      | (with_reducible refine LeO.bind ?_ (fun _ => ?_))
      | exact ih0 _ _ _
      | exact ih1 _ _ _
      | exact ih2 _ _
      | exact impl_KeptBy.mono _ _ _ _ _
      | exact impl_StandardCuts.mono _ _
      | exact spec_DrawKeptBy.mono _ _
      | exact LeO.none _
      | refine LeO.ite ?_ ?_
      | refine LeO.bind ?_ (fun _ => ?_)
    · intro y0 y1
      unfold laws_FnKept.l1
      repeat' first
      | (with_reducible exact ih0 _ _ _)
      | (with_reducible exact ih1 _ _ _)
      | (with_reducible exact ih2 _ _)
      | (with_reducible exact impl_KeptBy.mono _ _ _ _ _)
      | (with_reducible exact impl_StandardCuts.mono _ _)
      | (with_reducible exact spec_DrawKeptBy.mono _ _)
      | (with_reducible exact LeO.refl _)
      | (with_reducible exact LeO.none _)
      | (with_reducible refine LeO.ite ?_ ?_)
      | (with_reducible refine LeO.bind ?_ (fun _ => ?_))
      | exact ih0 _ _ _
      | exact ih1 _ _ _
      | exact ih2 _ _
      | exact impl_KeptBy.mono _ _ _ _ _
      | exact impl_StandardCuts.mono _ _
      | exact spec_DrawKeptBy.mono _ _
      | exact LeO.none _
      | refine LeO.ite ?_ ?_
      | refine LeO.bind ?_ (fun _ => ?_)
theorem laws_FnKept.mono : ∀ a0 k, LeO (laws_FnKept.f k a0) (laws_FnKept.f (k + 1) a0) := by
  intro a0 k
  obtain ⟨ih0, ih1, ih2⟩ := laws_FnKept.mono_l k
  unfold laws_FnKept.f
  repeat' first
      | (with_reducible exact ih0 _ _ _)
      | (with_reducible exact ih1 _ _ _)
      | (with_reducible exact ih2 _ _)
      | (with_reducible exact impl_KeptBy.mono _ _ _ _ _)
      | (with_reducible exact impl_StandardCuts.mono _ _)
      | (with_reducible exact spec_DrawKeptBy.mono _ _)
      | (with_reducible exact LeO.refl _)
      | (with_reducible exact LeO.none _)
      | (with_reducible refine LeO.ite ?_ ?_)
      | (with_reducible refine LeO.bind ?_ (fun _ => ?_))
      | exact ih0 _ _ _
      | exact ih1 _ _ _
      | exact ih2 _ _
      | exact impl_KeptBy.mono _ _ _ _ _
      | exact impl_StandardCuts.mono _ _
      | exact spec_DrawKeptBy.mono _ _
      | exact LeO.none _
      | refine LeO.ite ?_ ?_
      | refine LeO.bind ?_ (fun _ => ?_)
set_option maxHeartbeats 8000000 in
set_option maxRecDepth 100000 in
theorem laws_FnKept.calls (k : Nat) (A0 : Option Addr) (c0 : Nat) (l0 : List Int) (r : Bool) (w : World) (hr0 : Kd.C (Kd.int .u8) w A0 l0.length l0) (hc0 : l0.length ≤ c0) (h : laws_FnKept.f k l0 = some r) :
    Calls Try.prog 8 #[.slice A0 l0.length c0] w fun e w' => e = .returned (.bool r) ∧ Below w.heap.size w w' := by
  have hu25 := Try.underlying25
  have HR0 := Aside0.mk hr0
  have HC0 := Aside0.mk hc0
  clear hr0 hc0
  have HB := Aside0.mk (Below.refl w.heap.size w)
  have H : ((laws_b10Long.f l0).bind fun t211 => (if t211 = true then (some true) else ((spec_DrawKeptBy.f k l0).bind fun bt212 => ((impl_KeptBy.f k bt212.1 bt212.2.1 bt212.2.2.1 bt212.2.2.2).bind fun t217 => ((spec_ValidCut.f bt212.1 bt212.2.1 bt212.2.2.1).bind fun t220 => (if t220 = true then (if bt212.2.2.2 < 0 then (laws_FnKept.j0 k bt212.2.2.2 t217 true) else (laws_FnKept.j0 k bt212.2.2.2 t217 (decide (bt212.2.2.2 > 600)))) else (laws_FnKept.j0 k bt212.2.2.2 t217 true))))))) = some r := h
  clear h
  replace H := Option.bind_eq_some_iff.mp H
  obtain ⟨t211, A20, H⟩ := H
  replace H : (if t211 = true then (some true) else ((spec_DrawKeptBy.f k l0).bind fun bt212 => ((impl_KeptBy.f k bt212.1 bt212.2.1 bt212.2.2.1 bt212.2.2.2).bind fun t217 => ((spec_ValidCut.f bt212.1 bt212.2.1 bt212.2.2.1).bind fun t220 => (if t220 = true then (if bt212.2.2.2 < 0 then (laws_FnKept.j0 k bt212.2.2.2 t217 true) else (laws_FnKept.j0 k bt212.2.2.2 t217 (decide (bt212.2.2.2 > 600)))) else (laws_FnKept.j0 k bt212.2.2.2 t217 true)))))) = some r := H
  have A2 := Aside0.mk A20
  clear A20
  by_cases c3 : t211 = true
  · subst c3
    have H1 : (some true) = some r := by rw [if_pos rfl] at H; exact H
    clear H
    have H := H1
    clear H1
    obtain rfl := Option.some.inj H
    go_enter Try.func8, Try.ntmps8
    go_wp2_with (first | (go_at_call 23; (with_reducible refine (laws_b10Long.calls _ _ l0 true _ ?side1 ?side2 A2.out).mono ?_); (case side1 => repeat (first | exact HR0.out | (with_reducible refine Kd.C_alloc ?_ _) | (with_reducible refine Kd.C_drewN ?_ _) | (with_reducible refine Kd.C_drew ?_))); (case side2 => exact HC0.out); rintro e w' ⟨rfl, ⟨nd, rfl⟩⟩; (try first | exact ⟨rfl, _, World.drewN_drewN _ _ _⟩ | exact ⟨rfl, _, Eq.trans (World.drewN_drewN _ _ _) (congrArg (World.drewN _) (Nat.add_assoc _ _ _))⟩)))
    repeat (go_quiet (first | (go_at_call 23; (with_reducible refine (laws_b10Long.calls _ _ l0 true _ ?side1 ?side2 A2.out).mono ?_); (case side1 => repeat (first | exact HR0.out | (with_reducible refine Kd.C_alloc ?_ _) | (with_reducible refine Kd.C_drewN ?_ _) | (with_reducible refine Kd.C_drew ?_))); (case side2 => exact HC0.out); rintro e w' ⟨rfl, ⟨nd, rfl⟩⟩; (try first | exact ⟨rfl, _, World.drewN_drewN _ _ _⟩ | exact ⟨rfl, _, Eq.trans (World.drewN_drewN _ _ _) (congrArg (World.drewN _) (Nat.add_assoc _ _ _))⟩))); try go_wp2_with (first | (go_at_call 23; (with_reducible refine (laws_b10Long.calls _ _ l0 true _ ?side1 ?side2 A2.out).mono ?_); (case side1 => repeat (first | exact HR0.out | (with_reducible refine Kd.C_alloc ?_ _) | (with_reducible refine Kd.C_drewN ?_ _) | (with_reducible refine Kd.C_drew ?_))); (case side2 => exact HC0.out); rintro e w' ⟨rfl, ⟨nd, rfl⟩⟩; (try first | exact ⟨rfl, _, World.drewN_drewN _ _ _⟩ | exact ⟨rfl, _, Eq.trans (World.drewN_drewN _ _ _) (congrArg (World.drewN _) (Nat.add_assoc _ _ _))⟩))))
    go_ret
    exact ⟨by first | rfl | (simp [errW_none, errW_some] <;> rfl) | (simp [*, errW_none, errW_some] <;> rfl), by repeat (first | (with_reducible first | exact HB.out | apply below_alloc | apply pw_below_drewN | apply below_drew1) | exact HB.out)⟩
  · replace c3 := Bool.eq_false_iff.mpr c3
    subst c3
    have H1 : ((spec_DrawKeptBy.f k l0).bind fun bt212 => ((impl_KeptBy.f k bt212.1 bt212.2.1 bt212.2.2.1 bt212.2.2.2).bind fun t217 => ((spec_ValidCut.f bt212.1 bt212.2.1 bt212.2.2.1).bind fun t220 => (if t220 = true then (if bt212.2.2.2 < 0 then (laws_FnKept.j0 k bt212.2.2.2 t217 true) else (laws_FnKept.j0 k bt212.2.2.2 t217 (decide (bt212.2.2.2 > 600)))) else (laws_FnKept.j0 k bt212.2.2.2 t217 true))))) = some r := by rw [if_neg (show ¬ (false = true) by decide)] at H; exact H
    clear H
    have H := H1
    clear H1
    replace H := Option.bind_eq_some_iff.mp H
    obtain ⟨⟨t212, t213, t214, t215⟩, A40, H⟩ := H
    replace H : ((impl_KeptBy.f k t212 t213 t214 t215).bind fun t217 => ((spec_ValidCut.f t212 t213 t214).bind fun t220 => (if t220 = true then (if t215 < 0 then (laws_FnKept.j0 k t215 t217 true) else (laws_FnKept.j0 k t215 t217 (decide (t215 > 600)))) else (laws_FnKept.j0 k t215 t217 true)))) = some r := H
    have A4 := Aside0.mk A40
    clear A40
    replace H := Option.bind_eq_some_iff.mp H
    obtain ⟨t217, A50, H⟩ := H
    replace H : ((spec_ValidCut.f t212 t213 t214).bind fun t220 => (if t220 = true then (if t215 < 0 then (laws_FnKept.j0 k t215 t217 true) else (laws_FnKept.j0 k t215 t217 (decide (t215 > 600)))) else (laws_FnKept.j0 k t215 t217 true))) = some r := H
    have A5 := Aside0.mk A50
    clear A50
    have HC6 := Aside0.mk H
    clear H
    go_enter Try.func8, Try.ntmps8
    go_upto_region 5 with (first | (go_at_call 23; (with_reducible refine (laws_b10Long.calls _ _ l0 false _ ?side1 ?side2 A2.out).mono ?_); (case side1 => repeat (first | exact HR0.out | (with_reducible refine Kd.C_alloc ?_ _) | (with_reducible refine Kd.C_drewN ?_ _) | (with_reducible refine Kd.C_drew ?_))); (case side2 => exact HC0.out); rintro e w' ⟨rfl, ⟨nd, rfl⟩⟩; (try first | exact ⟨rfl, _, World.drewN_drewN _ _ _⟩ | exact ⟨rfl, _, Eq.trans (World.drewN_drewN _ _ _) (congrArg (World.drewN _) (Nat.add_assoc _ _ _))⟩)) | (go_at_call 24; (with_reducible refine (spec_DrawKeptBy.calls k _ _ l0 t212 t213 t214 t215 _ ?side1 ?side2 A4.out).mono ?_); (case side1 => repeat (first | exact HR0.out | (with_reducible refine Kd.C_alloc ?_ _) | (with_reducible refine Kd.C_drewN ?_ _) | (with_reducible refine Kd.C_drew ?_))); (case side2 => exact HC0.out); rintro e w7 ⟨rfl, hb⟩; have n0_ := Aside0.mk (below_step (by repeat (first | (with_reducible first | exact HB.out | apply below_alloc | apply pw_below_drewN | apply below_drew1) | exact HB.out)) hb); clear HB; have HB := n0_; clear n0_; (try clear hb); (try clear hb2); (try clear hk); (try clear hi)) | ((with_reducible refine gate_dst (N := 3) rfl ?_); refine box_event ?hg (N := 3) ?hd (cs := #[.int .i64 0, .int .i64 0, .int .i64 0]) (t := 25) ?hr ?_; (case hd => rfl); (case hg => rfl); (case hr => first | (go_simp; done) | (go_simp; rfl)); intro gb216 hg w8 hbox hb; have n0_ := Aside0.mk (below_step (by repeat (first | (with_reducible first | exact HB.out | apply below_alloc | apply pw_below_drewN | apply below_drew1) | exact HB.out)) hb); have n1_ := Aside0.mk (hbox); have n2_ := Aside0.mk ((by rw [hg]; exact (below_size (by repeat (first | (with_reducible first | exact HB.out | apply below_alloc | apply pw_below_drewN | apply below_drew1) | exact HB.out))) : w.heap.size ≤ gb216)); have n3_ := Aside0.mk ((by rw [hg]; exact (below_size (by repeat (first | (with_reducible first | exact HB.out | apply below_alloc | apply pw_below_drewN | apply below_drew1) | exact HB.out))) : w.heap.size ≤ gb216)); clear HB; have HB := n0_; have BK216 := n1_; have GW216 := n2_; have GE216 := n3_; clear n0_ n1_ n2_ n3_; clear hb hbox hg; have hcz9_0 : w8.cell? ⟨gb216, 0, none⟩ = some (.int .i64 0) := (blk_cell BK216.out 0).trans rfl; have hcz9_1 : w8.cell? ⟨gb216, 1, none⟩ = some (.int .i64 0) := (blk_cell BK216.out 1).trans rfl; have hcz9_2 : w8.cell? ⟨gb216, 2, none⟩ = some (.int .i64 0) := (blk_cell BK216.out 2).trans rfl; have hfz9_0 := blk_frozen BK216.out 0; have hfz9_1 := blk_frozen BK216.out 1; have hfz9_2 := blk_frozen BK216.out 2) | (go_at_call 17; (with_reducible refine (impl_KeptBy.calls k t212 t213 t214 t215 t217 _ A5.out).mono ?_); rintro e w10 ⟨v218, rfl, ho0, hb⟩; have n0_ := Aside0.mk (Kd.R_lower ho0 (below_size (by repeat (first | (with_reducible first | exact HB.out | apply below_alloc | apply pw_below_drewN | apply below_drew1 | refine below_set ?_ GE216.out) | exact HB.out)))); have n1_ := Aside0.mk (blk_below (g := gb216) (o := .cells #[.int .i64 t212, .int .i64 t213, .int .i64 t214] 25 (0, 0)) (by (with_reducible repeat (first | refine blk_drewN ?_ _ | refine blk_drew ?_ | refine blk_alloc ?_ _)); refine blk_put (cs := #[.int .i64 t212, .int .i64 t213, .int .i64 0]) ?_ 2 _ rfl; (with_reducible repeat (first | refine blk_drewN ?_ _ | refine blk_drew ?_ | refine blk_alloc ?_ _)); refine blk_put (cs := #[.int .i64 t212, .int .i64 0, .int .i64 0]) ?_ 1 _ rfl; (with_reducible repeat (first | refine blk_drewN ?_ _ | refine blk_drew ?_ | refine blk_alloc ?_ _)); refine blk_put (cs := #[.int .i64 0, .int .i64 0, .int .i64 0]) ?_ 0 _ rfl; (with_reducible repeat (first | refine blk_drewN ?_ _ | refine blk_drew ?_ | refine blk_alloc ?_ _)); exact BK216.out) hb); have n2_ := Aside0.mk (below_step (by repeat (first | (with_reducible first | exact HB.out | apply below_alloc | apply pw_below_drewN | apply below_drew1 | refine below_set ?_ GE216.out) | exact HB.out)) hb); clear BK216; clear HB; have HO219 := n0_; have BK216 := n1_; have HB := n2_; clear n0_ n1_ n2_; (try clear hb); (try clear hb2); (try clear hk); (try clear hi); (try clear ho0)))
    repeat (go_quiet (first | (go_at_call 23; (with_reducible refine (laws_b10Long.calls _ _ l0 false _ ?side1 ?side2 A2.out).mono ?_); (case side1 => repeat (first | exact HR0.out | (with_reducible refine Kd.C_alloc ?_ _) | (with_reducible refine Kd.C_drewN ?_ _) | (with_reducible refine Kd.C_drew ?_))); (case side2 => exact HC0.out); rintro e w' ⟨rfl, ⟨nd, rfl⟩⟩; (try first | exact ⟨rfl, _, World.drewN_drewN _ _ _⟩ | exact ⟨rfl, _, Eq.trans (World.drewN_drewN _ _ _) (congrArg (World.drewN _) (Nat.add_assoc _ _ _))⟩)) | (go_at_call 24; (with_reducible refine (spec_DrawKeptBy.calls k _ _ l0 t212 t213 t214 t215 _ ?side1 ?side2 A4.out).mono ?_); (case side1 => repeat (first | exact HR0.out | (with_reducible refine Kd.C_alloc ?_ _) | (with_reducible refine Kd.C_drewN ?_ _) | (with_reducible refine Kd.C_drew ?_))); (case side2 => exact HC0.out); rintro e w7 ⟨rfl, hb⟩; have n0_ := Aside0.mk (below_step (by repeat (first | (with_reducible first | exact HB.out | apply below_alloc | apply pw_below_drewN | apply below_drew1) | exact HB.out)) hb); clear HB; have HB := n0_; clear n0_; (try clear hb); (try clear hb2); (try clear hk); (try clear hi)) | ((with_reducible refine gate_dst (N := 3) rfl ?_); refine box_event ?hg (N := 3) ?hd (cs := #[.int .i64 0, .int .i64 0, .int .i64 0]) (t := 25) ?hr ?_; (case hd => rfl); (case hg => rfl); (case hr => first | (go_simp; done) | (go_simp; rfl)); intro gb216 hg w8 hbox hb; have n0_ := Aside0.mk (below_step (by repeat (first | (with_reducible first | exact HB.out | apply below_alloc | apply pw_below_drewN | apply below_drew1) | exact HB.out)) hb); have n1_ := Aside0.mk (hbox); have n2_ := Aside0.mk ((by rw [hg]; exact (below_size (by repeat (first | (with_reducible first | exact HB.out | apply below_alloc | apply pw_below_drewN | apply below_drew1) | exact HB.out))) : w.heap.size ≤ gb216)); have n3_ := Aside0.mk ((by rw [hg]; exact (below_size (by repeat (first | (with_reducible first | exact HB.out | apply below_alloc | apply pw_below_drewN | apply below_drew1) | exact HB.out))) : w.heap.size ≤ gb216)); clear HB; have HB := n0_; have BK216 := n1_; have GW216 := n2_; have GE216 := n3_; clear n0_ n1_ n2_ n3_; clear hb hbox hg; have hcz9_0 : w8.cell? ⟨gb216, 0, none⟩ = some (.int .i64 0) := (blk_cell BK216.out 0).trans rfl; have hcz9_1 : w8.cell? ⟨gb216, 1, none⟩ = some (.int .i64 0) := (blk_cell BK216.out 1).trans rfl; have hcz9_2 : w8.cell? ⟨gb216, 2, none⟩ = some (.int .i64 0) := (blk_cell BK216.out 2).trans rfl; have hfz9_0 := blk_frozen BK216.out 0; have hfz9_1 := blk_frozen BK216.out 1; have hfz9_2 := blk_frozen BK216.out 2) | (go_at_call 17; (with_reducible refine (impl_KeptBy.calls k t212 t213 t214 t215 t217 _ A5.out).mono ?_); rintro e w10 ⟨v218, rfl, ho0, hb⟩; have n0_ := Aside0.mk (Kd.R_lower ho0 (below_size (by repeat (first | (with_reducible first | exact HB.out | apply below_alloc | apply pw_below_drewN | apply below_drew1 | refine below_set ?_ GE216.out) | exact HB.out)))); have n1_ := Aside0.mk (blk_below (g := gb216) (o := .cells #[.int .i64 t212, .int .i64 t213, .int .i64 t214] 25 (0, 0)) (by (with_reducible repeat (first | refine blk_drewN ?_ _ | refine blk_drew ?_ | refine blk_alloc ?_ _)); refine blk_put (cs := #[.int .i64 t212, .int .i64 t213, .int .i64 0]) ?_ 2 _ rfl; (with_reducible repeat (first | refine blk_drewN ?_ _ | refine blk_drew ?_ | refine blk_alloc ?_ _)); refine blk_put (cs := #[.int .i64 t212, .int .i64 0, .int .i64 0]) ?_ 1 _ rfl; (with_reducible repeat (first | refine blk_drewN ?_ _ | refine blk_drew ?_ | refine blk_alloc ?_ _)); refine blk_put (cs := #[.int .i64 0, .int .i64 0, .int .i64 0]) ?_ 0 _ rfl; (with_reducible repeat (first | refine blk_drewN ?_ _ | refine blk_drew ?_ | refine blk_alloc ?_ _)); exact BK216.out) hb); have n2_ := Aside0.mk (below_step (by repeat (first | (with_reducible first | exact HB.out | apply below_alloc | apply pw_below_drewN | apply below_drew1 | refine below_set ?_ GE216.out) | exact HB.out)) hb); clear BK216; clear HB; have HO219 := n0_; have BK216 := n1_; have HB := n2_; clear n0_ n1_ n2_; (try clear hb); (try clear hb2); (try clear hk); (try clear hi); (try clear ho0))); go_upto_region 5 with (first | (go_at_call 23; (with_reducible refine (laws_b10Long.calls _ _ l0 false _ ?side1 ?side2 A2.out).mono ?_); (case side1 => repeat (first | exact HR0.out | (with_reducible refine Kd.C_alloc ?_ _) | (with_reducible refine Kd.C_drewN ?_ _) | (with_reducible refine Kd.C_drew ?_))); (case side2 => exact HC0.out); rintro e w' ⟨rfl, ⟨nd, rfl⟩⟩; (try first | exact ⟨rfl, _, World.drewN_drewN _ _ _⟩ | exact ⟨rfl, _, Eq.trans (World.drewN_drewN _ _ _) (congrArg (World.drewN _) (Nat.add_assoc _ _ _))⟩)) | (go_at_call 24; (with_reducible refine (spec_DrawKeptBy.calls k _ _ l0 t212 t213 t214 t215 _ ?side1 ?side2 A4.out).mono ?_); (case side1 => repeat (first | exact HR0.out | (with_reducible refine Kd.C_alloc ?_ _) | (with_reducible refine Kd.C_drewN ?_ _) | (with_reducible refine Kd.C_drew ?_))); (case side2 => exact HC0.out); rintro e w7 ⟨rfl, hb⟩; have n0_ := Aside0.mk (below_step (by repeat (first | (with_reducible first | exact HB.out | apply below_alloc | apply pw_below_drewN | apply below_drew1) | exact HB.out)) hb); clear HB; have HB := n0_; clear n0_; (try clear hb); (try clear hb2); (try clear hk); (try clear hi)) | ((with_reducible refine gate_dst (N := 3) rfl ?_); refine box_event ?hg (N := 3) ?hd (cs := #[.int .i64 0, .int .i64 0, .int .i64 0]) (t := 25) ?hr ?_; (case hd => rfl); (case hg => rfl); (case hr => first | (go_simp; done) | (go_simp; rfl)); intro gb216 hg w8 hbox hb; have n0_ := Aside0.mk (below_step (by repeat (first | (with_reducible first | exact HB.out | apply below_alloc | apply pw_below_drewN | apply below_drew1) | exact HB.out)) hb); have n1_ := Aside0.mk (hbox); have n2_ := Aside0.mk ((by rw [hg]; exact (below_size (by repeat (first | (with_reducible first | exact HB.out | apply below_alloc | apply pw_below_drewN | apply below_drew1) | exact HB.out))) : w.heap.size ≤ gb216)); have n3_ := Aside0.mk ((by rw [hg]; exact (below_size (by repeat (first | (with_reducible first | exact HB.out | apply below_alloc | apply pw_below_drewN | apply below_drew1) | exact HB.out))) : w.heap.size ≤ gb216)); clear HB; have HB := n0_; have BK216 := n1_; have GW216 := n2_; have GE216 := n3_; clear n0_ n1_ n2_ n3_; clear hb hbox hg; have hcz9_0 : w8.cell? ⟨gb216, 0, none⟩ = some (.int .i64 0) := (blk_cell BK216.out 0).trans rfl; have hcz9_1 : w8.cell? ⟨gb216, 1, none⟩ = some (.int .i64 0) := (blk_cell BK216.out 1).trans rfl; have hcz9_2 : w8.cell? ⟨gb216, 2, none⟩ = some (.int .i64 0) := (blk_cell BK216.out 2).trans rfl; have hfz9_0 := blk_frozen BK216.out 0; have hfz9_1 := blk_frozen BK216.out 1; have hfz9_2 := blk_frozen BK216.out 2) | (go_at_call 17; (with_reducible refine (impl_KeptBy.calls k t212 t213 t214 t215 t217 _ A5.out).mono ?_); rintro e w10 ⟨v218, rfl, ho0, hb⟩; have n0_ := Aside0.mk (Kd.R_lower ho0 (below_size (by repeat (first | (with_reducible first | exact HB.out | apply below_alloc | apply pw_below_drewN | apply below_drew1 | refine below_set ?_ GE216.out) | exact HB.out)))); have n1_ := Aside0.mk (blk_below (g := gb216) (o := .cells #[.int .i64 t212, .int .i64 t213, .int .i64 t214] 25 (0, 0)) (by (with_reducible repeat (first | refine blk_drewN ?_ _ | refine blk_drew ?_ | refine blk_alloc ?_ _)); refine blk_put (cs := #[.int .i64 t212, .int .i64 t213, .int .i64 0]) ?_ 2 _ rfl; (with_reducible repeat (first | refine blk_drewN ?_ _ | refine blk_drew ?_ | refine blk_alloc ?_ _)); refine blk_put (cs := #[.int .i64 t212, .int .i64 0, .int .i64 0]) ?_ 1 _ rfl; (with_reducible repeat (first | refine blk_drewN ?_ _ | refine blk_drew ?_ | refine blk_alloc ?_ _)); refine blk_put (cs := #[.int .i64 0, .int .i64 0, .int .i64 0]) ?_ 0 _ rfl; (with_reducible repeat (first | refine blk_drewN ?_ _ | refine blk_drew ?_ | refine blk_alloc ?_ _)); exact BK216.out) hb); have n2_ := Aside0.mk (below_step (by repeat (first | (with_reducible first | exact HB.out | apply below_alloc | apply pw_below_drewN | apply below_drew1 | refine below_set ?_ GE216.out) | exact HB.out)) hb); clear BK216; clear HB; have HO219 := n0_; have BK216 := n1_; have HB := n2_; clear n0_ n1_ n2_; (try clear hb); (try clear hb2); (try clear hk); (try clear hi); (try clear ho0))))
    (try simp only [Act.put, List.setIfInBounds_toArray, List.set_cons_zero, List.set_cons_succ])
    go_cut [29] (fun v29 wc => ∃ (kq : Nat) (x29_5 : Bool), v29 = .bool x29_5 ∧ Aside0 (laws_FnKept.j0 kq t215 t217 x29_5 = some r) ∧ Aside0 (kq ≤ k) ∧ Aside0 (Kd.R Kd.bool 4 wc w.heap.size (fun _ => True) v218 t217) ∧ Aside0 (wc.heap[gb216]? = some (.cells #[.int .i64 t212, .int .i64 t213, .int .i64 t214] 25 (0, 0))) ∧ Aside0 (Below w.heap.size w wc))
    case first =>
      have H := HC6.out
      clear HC6
      replace H := Option.bind_eq_some_iff.mp H
      obtain ⟨t220, A110, H⟩ := H
      replace H : (if t220 = true then (if t215 < 0 then (laws_FnKept.j0 k t215 t217 true) else (laws_FnKept.j0 k t215 t217 (decide (t215 > 600)))) else (laws_FnKept.j0 k t215 t217 true)) = some r := H
      have A11 := Aside0.mk A110
      clear A110
      by_cases c12 : t220 = true
      · subst c12
        have H1 : (if t215 < 0 then (laws_FnKept.j0 k t215 t217 true) else (laws_FnKept.j0 k t215 t217 (decide (t215 > 600)))) = some r := by rw [if_pos rfl] at H; exact H
        clear H
        have H := H1
        clear H1
        by_cases c13 : t215 < 0
        · rw [if_pos c13] at H
          have c13b0 : decide (t215 < 0) = true := decide_eq_true c13
          clear c13
          (first | rw [c13b0] | (simp only [i64_w, i32_w]; rw [c13b0]) | skip)
          have H' := Aside0.mk H
          clear H
          have hcz14_0 : w10.cell? ⟨gb216, 0, none⟩ = some (.int .i64 t212) := (blk_cell BK216.out 0).trans rfl
          have hcz14_1 : w10.cell? ⟨gb216, 1, none⟩ = some (.int .i64 t213) := (blk_cell BK216.out 1).trans rfl
          have hcz14_2 : w10.cell? ⟨gb216, 2, none⟩ = some (.int .i64 t214) := (blk_cell BK216.out 2).trans rfl
          have hfz14_0 := blk_frozen BK216.out 0
          have hfz14_1 := blk_frozen BK216.out 1
          have hfz14_2 := blk_frozen BK216.out 2
          go_wp2_with (first | (go_at_call 9; (with_reducible refine (spec_ValidCut.calls t212 t213 t214 true _ A11.out).mono ?_); rintro e w15 ⟨rfl, hb⟩; have n0_ := Aside0.mk (Kd.R_below (by (with_reducible repeat (first | apply Kd.R_alloc | apply Kd.R_drewN | apply Kd.R_drew)); exact HO219.out) hb); have n1_ := Aside0.mk (blk_below (g := gb216) (o := .cells #[.int .i64 t212, .int .i64 t213, .int .i64 t214] 25 (0, 0)) (by (with_reducible repeat (first | refine blk_drewN ?_ _ | refine blk_drew ?_ | refine blk_alloc ?_ _)); exact BK216.out) hb); have n2_ := Aside0.mk (below_step (by repeat (first | (with_reducible first | exact HB.out | apply below_alloc | apply pw_below_drewN | apply below_drew1 | refine below_set ?_ GE216.out) | exact HB.out)) hb); clear HO219; clear BK216; clear HB; have HO219 := n0_; have BK216 := n1_; have HB := n2_; clear n0_ n1_ n2_; (try clear hb); (try clear hb2); (try clear hk); (try clear hi)))
          repeat (go_quiet (first | (go_at_call 9; (with_reducible refine (spec_ValidCut.calls t212 t213 t214 true _ A11.out).mono ?_); rintro e w15 ⟨rfl, hb⟩; have n0_ := Aside0.mk (Kd.R_below (by (with_reducible repeat (first | apply Kd.R_alloc | apply Kd.R_drewN | apply Kd.R_drew)); exact HO219.out) hb); have n1_ := Aside0.mk (blk_below (g := gb216) (o := .cells #[.int .i64 t212, .int .i64 t213, .int .i64 t214] 25 (0, 0)) (by (with_reducible repeat (first | refine blk_drewN ?_ _ | refine blk_drew ?_ | refine blk_alloc ?_ _)); exact BK216.out) hb); have n2_ := Aside0.mk (below_step (by repeat (first | (with_reducible first | exact HB.out | apply below_alloc | apply pw_below_drewN | apply below_drew1 | refine below_set ?_ GE216.out) | exact HB.out)) hb); clear HO219; clear BK216; clear HB; have HO219 := n0_; have BK216 := n1_; have HB := n2_; clear n0_ n1_ n2_; (try clear hb); (try clear hb2); (try clear hk); (try clear hi))); try go_wp2_with (first | (go_at_call 9; (with_reducible refine (spec_ValidCut.calls t212 t213 t214 true _ A11.out).mono ?_); rintro e w15 ⟨rfl, hb⟩; have n0_ := Aside0.mk (Kd.R_below (by (with_reducible repeat (first | apply Kd.R_alloc | apply Kd.R_drewN | apply Kd.R_drew)); exact HO219.out) hb); have n1_ := Aside0.mk (blk_below (g := gb216) (o := .cells #[.int .i64 t212, .int .i64 t213, .int .i64 t214] 25 (0, 0)) (by (with_reducible repeat (first | refine blk_drewN ?_ _ | refine blk_drew ?_ | refine blk_alloc ?_ _)); exact BK216.out) hb); have n2_ := Aside0.mk (below_step (by repeat (first | (with_reducible first | exact HB.out | apply below_alloc | apply pw_below_drewN | apply below_drew1 | refine below_set ?_ GE216.out) | exact HB.out)) hb); clear HO219; clear BK216; clear HB; have HO219 := n0_; have BK216 := n1_; have HB := n2_; clear n0_ n1_ n2_; (try clear hb); (try clear hb2); (try clear hk); (try clear hi))))
          go_meet
          case rel => exact ⟨_, (true), (by first | rfl | (simp; done) | (simp [*]; done)), H', ⟨by first | omega | exact Nat.le_refl _⟩, ⟨by (with_reducible repeat (first | apply Kd.R_alloc | apply Kd.R_drewN | apply Kd.R_drew)); exact HO219.out⟩, ⟨by (with_reducible repeat (first | refine blk_drewN ?_ _ | refine blk_drew ?_ | refine blk_alloc ?_ _)); exact BK216.out⟩, ⟨by repeat (first | (with_reducible first | exact HB.out | apply below_alloc | apply pw_below_drewN | apply below_drew1 | refine below_set ?_ GE216.out) | exact HB.out)⟩⟩
        · rw [if_neg c13] at H
          have c13b0 : decide (t215 < 0) = false := decide_eq_false c13
          clear c13
          (first | rw [c13b0] | (simp only [i64_w, i32_w]; rw [c13b0]) | skip)
          have H' := Aside0.mk H
          clear H
          have hcz16_0 : w10.cell? ⟨gb216, 0, none⟩ = some (.int .i64 t212) := (blk_cell BK216.out 0).trans rfl
          have hcz16_1 : w10.cell? ⟨gb216, 1, none⟩ = some (.int .i64 t213) := (blk_cell BK216.out 1).trans rfl
          have hcz16_2 : w10.cell? ⟨gb216, 2, none⟩ = some (.int .i64 t214) := (blk_cell BK216.out 2).trans rfl
          have hfz16_0 := blk_frozen BK216.out 0
          have hfz16_1 := blk_frozen BK216.out 1
          have hfz16_2 := blk_frozen BK216.out 2
          go_wp2_with (first | (go_at_call 9; (with_reducible refine (spec_ValidCut.calls t212 t213 t214 true _ A11.out).mono ?_); rintro e w17 ⟨rfl, hb⟩; have n0_ := Aside0.mk (Kd.R_below (by (with_reducible repeat (first | apply Kd.R_alloc | apply Kd.R_drewN | apply Kd.R_drew)); exact HO219.out) hb); have n1_ := Aside0.mk (blk_below (g := gb216) (o := .cells #[.int .i64 t212, .int .i64 t213, .int .i64 t214] 25 (0, 0)) (by (with_reducible repeat (first | refine blk_drewN ?_ _ | refine blk_drew ?_ | refine blk_alloc ?_ _)); exact BK216.out) hb); have n2_ := Aside0.mk (below_step (by repeat (first | (with_reducible first | exact HB.out | apply below_alloc | apply pw_below_drewN | apply below_drew1 | refine below_set ?_ GE216.out) | exact HB.out)) hb); clear HO219; clear BK216; clear HB; have HO219 := n0_; have BK216 := n1_; have HB := n2_; clear n0_ n1_ n2_; (try clear hb); (try clear hb2); (try clear hk); (try clear hi)))
          repeat (go_quiet (first | (go_at_call 9; (with_reducible refine (spec_ValidCut.calls t212 t213 t214 true _ A11.out).mono ?_); rintro e w17 ⟨rfl, hb⟩; have n0_ := Aside0.mk (Kd.R_below (by (with_reducible repeat (first | apply Kd.R_alloc | apply Kd.R_drewN | apply Kd.R_drew)); exact HO219.out) hb); have n1_ := Aside0.mk (blk_below (g := gb216) (o := .cells #[.int .i64 t212, .int .i64 t213, .int .i64 t214] 25 (0, 0)) (by (with_reducible repeat (first | refine blk_drewN ?_ _ | refine blk_drew ?_ | refine blk_alloc ?_ _)); exact BK216.out) hb); have n2_ := Aside0.mk (below_step (by repeat (first | (with_reducible first | exact HB.out | apply below_alloc | apply pw_below_drewN | apply below_drew1 | refine below_set ?_ GE216.out) | exact HB.out)) hb); clear HO219; clear BK216; clear HB; have HO219 := n0_; have BK216 := n1_; have HB := n2_; clear n0_ n1_ n2_; (try clear hb); (try clear hb2); (try clear hk); (try clear hi))); try go_wp2_with (first | (go_at_call 9; (with_reducible refine (spec_ValidCut.calls t212 t213 t214 true _ A11.out).mono ?_); rintro e w17 ⟨rfl, hb⟩; have n0_ := Aside0.mk (Kd.R_below (by (with_reducible repeat (first | apply Kd.R_alloc | apply Kd.R_drewN | apply Kd.R_drew)); exact HO219.out) hb); have n1_ := Aside0.mk (blk_below (g := gb216) (o := .cells #[.int .i64 t212, .int .i64 t213, .int .i64 t214] 25 (0, 0)) (by (with_reducible repeat (first | refine blk_drewN ?_ _ | refine blk_drew ?_ | refine blk_alloc ?_ _)); exact BK216.out) hb); have n2_ := Aside0.mk (below_step (by repeat (first | (with_reducible first | exact HB.out | apply below_alloc | apply pw_below_drewN | apply below_drew1 | refine below_set ?_ GE216.out) | exact HB.out)) hb); clear HO219; clear BK216; clear HB; have HO219 := n0_; have BK216 := n1_; have HB := n2_; clear n0_ n1_ n2_; (try clear hb); (try clear hb2); (try clear hk); (try clear hi))))
          go_meet
          case rel => exact ⟨_, (decide (t215 > 600)), (by first | rfl | (simp; done) | (simp [*]; done)), H', ⟨by first | omega | exact Nat.le_refl _⟩, ⟨by (with_reducible repeat (first | apply Kd.R_alloc | apply Kd.R_drewN | apply Kd.R_drew)); exact HO219.out⟩, ⟨by (with_reducible repeat (first | refine blk_drewN ?_ _ | refine blk_drew ?_ | refine blk_alloc ?_ _)); exact BK216.out⟩, ⟨by repeat (first | (with_reducible first | exact HB.out | apply below_alloc | apply pw_below_drewN | apply below_drew1 | refine below_set ?_ GE216.out) | exact HB.out)⟩⟩
      · replace c12 := Bool.eq_false_iff.mpr c12
        subst c12
        have H1 : (laws_FnKept.j0 k t215 t217 true) = some r := by rw [if_neg (show ¬ (false = true) by decide)] at H; exact H
        clear H
        have H := H1
        clear H1
        have H' := Aside0.mk H
        clear H
        have hcz18_0 : w10.cell? ⟨gb216, 0, none⟩ = some (.int .i64 t212) := (blk_cell BK216.out 0).trans rfl
        have hcz18_1 : w10.cell? ⟨gb216, 1, none⟩ = some (.int .i64 t213) := (blk_cell BK216.out 1).trans rfl
        have hcz18_2 : w10.cell? ⟨gb216, 2, none⟩ = some (.int .i64 t214) := (blk_cell BK216.out 2).trans rfl
        have hfz18_0 := blk_frozen BK216.out 0
        have hfz18_1 := blk_frozen BK216.out 1
        have hfz18_2 := blk_frozen BK216.out 2
        go_wp2_with (first | (go_at_call 9; (with_reducible refine (spec_ValidCut.calls t212 t213 t214 false _ A11.out).mono ?_); rintro e w19 ⟨rfl, hb⟩; have n0_ := Aside0.mk (Kd.R_below (by (with_reducible repeat (first | apply Kd.R_alloc | apply Kd.R_drewN | apply Kd.R_drew)); exact HO219.out) hb); have n1_ := Aside0.mk (blk_below (g := gb216) (o := .cells #[.int .i64 t212, .int .i64 t213, .int .i64 t214] 25 (0, 0)) (by (with_reducible repeat (first | refine blk_drewN ?_ _ | refine blk_drew ?_ | refine blk_alloc ?_ _)); exact BK216.out) hb); have n2_ := Aside0.mk (below_step (by repeat (first | (with_reducible first | exact HB.out | apply below_alloc | apply pw_below_drewN | apply below_drew1 | refine below_set ?_ GE216.out) | exact HB.out)) hb); clear HO219; clear BK216; clear HB; have HO219 := n0_; have BK216 := n1_; have HB := n2_; clear n0_ n1_ n2_; (try clear hb); (try clear hb2); (try clear hk); (try clear hi)))
        repeat (go_quiet (first | (go_at_call 9; (with_reducible refine (spec_ValidCut.calls t212 t213 t214 false _ A11.out).mono ?_); rintro e w19 ⟨rfl, hb⟩; have n0_ := Aside0.mk (Kd.R_below (by (with_reducible repeat (first | apply Kd.R_alloc | apply Kd.R_drewN | apply Kd.R_drew)); exact HO219.out) hb); have n1_ := Aside0.mk (blk_below (g := gb216) (o := .cells #[.int .i64 t212, .int .i64 t213, .int .i64 t214] 25 (0, 0)) (by (with_reducible repeat (first | refine blk_drewN ?_ _ | refine blk_drew ?_ | refine blk_alloc ?_ _)); exact BK216.out) hb); have n2_ := Aside0.mk (below_step (by repeat (first | (with_reducible first | exact HB.out | apply below_alloc | apply pw_below_drewN | apply below_drew1 | refine below_set ?_ GE216.out) | exact HB.out)) hb); clear HO219; clear BK216; clear HB; have HO219 := n0_; have BK216 := n1_; have HB := n2_; clear n0_ n1_ n2_; (try clear hb); (try clear hb2); (try clear hk); (try clear hi))); try go_wp2_with (first | (go_at_call 9; (with_reducible refine (spec_ValidCut.calls t212 t213 t214 false _ A11.out).mono ?_); rintro e w19 ⟨rfl, hb⟩; have n0_ := Aside0.mk (Kd.R_below (by (with_reducible repeat (first | apply Kd.R_alloc | apply Kd.R_drewN | apply Kd.R_drew)); exact HO219.out) hb); have n1_ := Aside0.mk (blk_below (g := gb216) (o := .cells #[.int .i64 t212, .int .i64 t213, .int .i64 t214] 25 (0, 0)) (by (with_reducible repeat (first | refine blk_drewN ?_ _ | refine blk_drew ?_ | refine blk_alloc ?_ _)); exact BK216.out) hb); have n2_ := Aside0.mk (below_step (by repeat (first | (with_reducible first | exact HB.out | apply below_alloc | apply pw_below_drewN | apply below_drew1 | refine below_set ?_ GE216.out) | exact HB.out)) hb); clear HO219; clear BK216; clear HB; have HO219 := n0_; have BK216 := n1_; have HB := n2_; clear n0_ n1_ n2_; (try clear hb); (try clear hb2); (try clear hk); (try clear hi))))
        go_meet
        case rel => exact ⟨_, (true), (by first | rfl | (simp; done) | (simp [*]; done)), H', ⟨by first | omega | exact Nat.le_refl _⟩, ⟨by (with_reducible repeat (first | apply Kd.R_alloc | apply Kd.R_drewN | apply Kd.R_drew)); exact HO219.out⟩, ⟨by (with_reducible repeat (first | refine blk_drewN ?_ _ | refine blk_drew ?_ | refine blk_alloc ?_ _)); exact BK216.out⟩, ⟨by repeat (first | (with_reducible first | exact HB.out | apply below_alloc | apply pw_below_drewN | apply below_drew1 | refine below_set ?_ GE216.out) | exact HB.out)⟩⟩
    case rest =>
      clear HC6
      try clear c1
      try clear p2
      try clear c3
      try clear c8
      try clear c12
      try clear c13
      try clear c13b0
      try clear hcz14_0
      try clear hcz14_1
      try clear hcz14_2
      try clear hcz16_0
      try clear hcz16_1
      try clear hcz16_2
      try clear hcz18_0
      try clear hcz18_1
      try clear hcz18_2
      try clear hcz9_0
      try clear hcz9_1
      try clear hcz9_2
      try clear hfz14_0
      try clear hfz14_1
      try clear hfz14_2
      try clear hfz16_0
      try clear hfz16_1
      try clear hfz16_2
      try clear hfz18_0
      try clear hfz18_1
      try clear hfz18_2
      try clear hfz9_0
      try clear hfz9_1
      try clear hfz9_2
      obtain ⟨kq, x29_5, rfl, HA, HJ5, HO_5, BK216, HB⟩ := hcut
      cases kq with
      | zero => exact absurd HA.out (by simp [laws_FnKept.j0])
      | succ kj5 =>
        have H := HA.out
        clear HA
        simp only [laws_FnKept.j0] at H
        by_cases c20 : x29_5 = true
        · subst c20
          have H1 : (some ((t217.length : Int) == 0)) = some r := by rw [if_pos rfl] at H; exact H
          clear H
          have H := H1
          clear H1
          obtain rfl := Option.some.inj H
          obtain ⟨Ao21, co21, eo21⟩ := Kd.R_slice HO_5.out
          subst eo21
          go_wp2
          repeat (go_quiet (fail); try go_wp2)
          go_ret
          exact ⟨by first | rfl | (simp [errW_none, errW_some] <;> rfl) | (simp [*, errW_none, errW_some] <;> rfl), by repeat (first | (with_reducible first | exact HB.out | apply below_alloc | apply pw_below_drewN | apply below_drew1 | refine below_set ?_ GE216.out) | exact HB.out)⟩
        · replace c20 := Bool.eq_false_iff.mpr c20
          subst c20
          have H1 : (if (t217.length : Int) = t215 then (laws_FnKept.l0 kj5 t215 t217 30) else (some false)) = some r := by rw [if_neg (show ¬ (false = true) by decide)] at H; exact H
          clear H
          have H := H1
          clear H1
          by_cases c22 : (t217.length : Int) = t215
          · rw [if_pos c22] at H
            have c22b0 : ((t217.length : Int) == t215) = true := beq_iff_eq.mpr c22
            have c22b1 : ((t217.length : Int) != t215) = false := bne_eq_false_iff_eq.mpr c22
            clear c22
            have H' := Aside0.mk H
            clear H
            obtain ⟨Ao23, co23, eo23⟩ := Kd.R_slice HO_5.out
            subst eo23
            go_wp2
            repeat (go_quiet (fail); try go_wp2)
            go_loopg [6] kj5 (fun kq v6 w' => ∃ (x6_2 : Int), v6 = .int .i64 x6_2 ∧ Aside0 (laws_FnKept.l0 kq t215 t217 x6_2 = some r) ∧ Aside0 (kq ≤ kj5) ∧ Aside0 (Kd.R Kd.bool 4 w' w.heap.size (fun _ => True) (.slice Ao23 t217.length co23) t217) ∧ Aside0 (w'.heap[gb216]? = some (.cells #[.int .i64 t212, .int .i64 t213, .int .i64 t214] 25 (0, 0))) ∧ Aside0 (Below w.heap.size w w'))
            case atStart => exact ⟨(30), (by first | rfl | (simp; done) | (simp [*]; done)), H', ⟨Nat.le_refl _⟩, ⟨by (with_reducible repeat (first | apply Kd.R_alloc | apply Kd.R_drewN | apply Kd.R_drew)); exact HO_5.out⟩, ⟨by (with_reducible repeat (first | refine blk_drewN ?_ _ | refine blk_drew ?_ | refine blk_alloc ?_ _)); exact BK216.out⟩, ⟨by repeat (first | (with_reducible first | exact HB.out | apply below_alloc | apply pw_below_drewN | apply below_drew1 | refine below_set ?_ GE216.out) | exact HB.out)⟩⟩
            case round =>
              clear H'
              try clear c1
              try clear c2
              try clear p2
              try clear c3
              try clear c8
              try clear c12
              try clear c13
              try clear c13b0
              try clear c20
              try clear c22
              try clear c22b0
              try clear c22b1
              try clear hcz14_0
              try clear hcz14_1
              try clear hcz14_2
              try clear hcz16_0
              try clear hcz16_1
              try clear hcz16_2
              try clear hcz18_0
              try clear hcz18_1
              try clear hcz18_2
              try clear hcz9_0
              try clear hcz9_1
              try clear hcz9_2
              try clear hfz14_0
              try clear hfz14_1
              try clear hfz14_2
              try clear hfz16_0
              try clear hfz16_1
              try clear hfz16_2
              try clear hfz18_0
              try clear hfz18_1
              try clear hfz18_2
              try clear hfz9_0
              try clear hfz9_1
              try clear hfz9_2
              try clear p2
              obtain ⟨x6_2, rfl, HA, HK2, HO_5, BK216, HB⟩ := hrel
              cases gk with
              | zero => exact absurd HA.out (by simp [laws_FnKept.l0])
              | succ k2 =>
                have H := HA.out
                clear HA
                simp only [laws_FnKept.l0] at H
                by_cases c24 : x6_2 < t215
                · rw [if_pos c24] at H
                  have c24b0 : decide (x6_2 < t215) = true := decide_eq_true c24
                  clear c24
                  by_cases c25 : 0 ≤ x6_2
                  · rw [if_pos c25] at H
                    have c25b0 : decide (0 ≤ x6_2) = true := decide_eq_true c25
                    clear c25
                    by_cases c26 : x6_2 < (t217.length : Int)
                    · rw [if_pos c26] at H
                      have c26b0 : decide (x6_2 < (t217.length : Int)) = true := decide_eq_true c26
                      clear c26
                      obtain ⟨ji27, hji27⟩ : ∃ j_ : Int, (wrap64 (x6_2 - 30)) = j_ := ⟨_, rfl⟩
                      replace H : (if 0 ≤ (ji27) then (if (ji27) < (t217.length : Int) then (if ((rdOf false t217 x6_2) != (rdOf false t217 (ji27))) = true then (some false) else (laws_FnKept.l0 k2 t215 t217 (wrap64 (x6_2 + 1)))) else (none)) else (none)) = some r := by first | (rw [hji27] at H; exact H) | (simp only [hji27] at H ⊢; exact H)
                      have hji27w : (IntKind.i64.wrap (x6_2 - 30)) = ji27 := (i64_w _).trans hji27
                      by_cases c28 : 0 ≤ (ji27)
                      · rw [if_pos c28] at H
                        have c28b0 : decide (0 ≤ (ji27)) = true := decide_eq_true c28
                        clear c28
                        by_cases c29 : (ji27) < (t217.length : Int)
                        · rw [if_pos c29] at H
                          have c29b0 : decide ((ji27) < (t217.length : Int)) = true := decide_eq_true c29
                          clear c29
                          by_cases c30 : ((rdOf false t217 x6_2) != (rdOf false t217 (ji27))) = true
                          · rw [if_pos c30] at H
                            have c30b0 : ((rdOf false t217 x6_2) != (rdOf false t217 (ji27))) = true := c30
                            (try (have c30b1 : decide ((rdOf false t217 x6_2) = (rdOf false t217 (ji27))) = false := by simpa using c30))
                            (try (have c30b2 : ((rdOf false t217 x6_2) == (rdOf false t217 (ji27))) = false := by simpa using c30))
                            (try (have c30b3 : ¬ ((rdOf false t217 x6_2) = (rdOf false t217 (ji27))) := by simpa using c30))
                            clear c30
                            obtain rfl := Option.some.inj H
                            have p221 : 0 ≤ (x6_2 : Int) := of_decide_eq_true (by first | (with_reducible assumption) | assumption)
                            have q221 : x6_2 < (t217.length : Int) := of_decide_eq_true (by first | (with_reducible assumption) | assumption)
                            obtain ⟨ad221, e221, hx221_0⟩ := Kd.at_bool (Kd.R_reads' HO_5.out).2.2 x6_2 p221 q221
                            cases e221
                            replace p221 := eq_true p221
                            replace q221 := eq_true q221
                            have p222 : 0 ≤ ((ji27) : Int) := of_decide_eq_true (by first | (with_reducible assumption) | assumption)
                            have q222 : (ji27) < (t217.length : Int) := of_decide_eq_true (by first | (with_reducible assumption) | assumption)
                            obtain ⟨ad222, e222, hx222_0⟩ := Kd.at_bool (Kd.R_reads' HO_5.out).2.2 (ji27) p222 q222
                            obtain rfl : ad221 = ad222 := (by injection e222)
                            replace p222 := eq_true p222
                            replace q222 := eq_true q222
                            go_wp2
                            repeat (go_quiet (fail); try go_wp2)
                            go_ret
                            exact ⟨by first | rfl | (simp [errW_none, errW_some] <;> rfl) | (simp only [← hji27]; first | rfl | (simp [errW_none, errW_some] <;> rfl)) | (simp [*, errW_none, errW_some] <;> rfl), by repeat (first | (with_reducible first | exact HB.out | apply below_alloc | apply pw_below_drewN | apply below_drew1 | refine below_set ?_ GE216.out) | exact HB.out)⟩
                          · rw [if_neg c30] at H
                            have c30b0 : ((rdOf false t217 x6_2) != (rdOf false t217 (ji27))) = false := by simpa using c30
                            (try (have c30b1 : decide ((rdOf false t217 x6_2) = (rdOf false t217 (ji27))) = true := by simpa using c30))
                            (try (have c30b2 : ((rdOf false t217 x6_2) == (rdOf false t217 (ji27))) = true := by simpa using c30))
                            clear c30
                            have H' := Aside0.mk H
                            clear H
                            have p221 : 0 ≤ (x6_2 : Int) := of_decide_eq_true (by first | (with_reducible assumption) | assumption)
                            have q221 : x6_2 < (t217.length : Int) := of_decide_eq_true (by first | (with_reducible assumption) | assumption)
                            obtain ⟨ad221, e221, hx221_0⟩ := Kd.at_bool (Kd.R_reads' HO_5.out).2.2 x6_2 p221 q221
                            cases e221
                            replace p221 := eq_true p221
                            replace q221 := eq_true q221
                            have p222 : 0 ≤ ((ji27) : Int) := of_decide_eq_true (by first | (with_reducible assumption) | assumption)
                            have q222 : (ji27) < (t217.length : Int) := of_decide_eq_true (by first | (with_reducible assumption) | assumption)
                            obtain ⟨ad222, e222, hx222_0⟩ := Kd.at_bool (Kd.R_reads' HO_5.out).2.2 (ji27) p222 q222
                            obtain rfl : ad221 = ad222 := (by injection e222)
                            replace p222 := eq_true p222
                            replace q222 := eq_true q222
                            go_wp2
                            repeat (go_quiet (fail); try go_wp2)
                            go_roundg k2
                            case measure => have := HJ5.out; have := HK2.out; omega
                            case rel => exact ⟨(wrap64 (x6_2 + 1)), (by first | rfl | (simp; done) | (simp [*]; done)), H', ⟨by have := HJ5.out; have := HK2.out; omega⟩, ⟨by (with_reducible repeat (first | apply Kd.R_alloc | apply Kd.R_drewN | apply Kd.R_drew)); exact HO_5.out⟩, ⟨by (with_reducible repeat (first | refine blk_drewN ?_ _ | refine blk_drew ?_ | refine blk_alloc ?_ _)); exact BK216.out⟩, ⟨by repeat (first | (with_reducible first | exact HB.out | apply below_alloc | apply pw_below_drewN | apply below_drew1 | refine below_set ?_ GE216.out) | exact HB.out)⟩⟩
                        · rw [if_neg c29] at H
                          exact absurd H (by simp)
                      · rw [if_neg c28] at H
                        exact absurd H (by simp)
                    · rw [if_neg c26] at H
                      exact absurd H (by simp)
                  · rw [if_neg c25] at H
                    exact absurd H (by simp)
                · rw [if_neg c24] at H
                  have c24b0 : decide (x6_2 < t215) = false := decide_eq_false c24
                  clear c24
                  replace H := Option.bind_eq_some_iff.mp H
                  obtain ⟨t223, A310, H⟩ := H
                  replace H : (laws_FnKept.l1 k2 t223 0) = some r := H
                  have A31 := Aside0.mk A310
                  clear A310
                  have H' := Aside0.mk H
                  clear H
                  go_wp2_with (first | (go_at_call 25; (with_reducible refine (impl_StandardCuts.calls k2 t215 t223 _ A31.out).mono ?_); rintro e w32 ⟨v224, rfl, ho0, hb⟩; have n0_ := Aside0.mk (Kd.R_below (by (with_reducible repeat (first | apply Kd.R_alloc | apply Kd.R_drewN | apply Kd.R_drew)); exact HO_5.out) hb); have n1_ := Aside0.mk (Kd.R_lower (Kd.R_newB ho0 (g := gb216) (o := .cells #[.int .i64 t212, .int .i64 t213, .int .i64 t214] 25 (0, 0)) (by (with_reducible repeat (first | refine blk_drewN ?_ _ | refine blk_drew ?_ | refine blk_alloc ?_ _)); exact BK216.out)) (below_size (by repeat (first | (with_reducible first | exact HB.out | apply below_alloc | apply pw_below_drewN | apply below_drew1 | refine below_set ?_ GE216.out) | exact HB.out)))); have n2_ := Aside0.mk (blk_below (g := gb216) (o := .cells #[.int .i64 t212, .int .i64 t213, .int .i64 t214] 25 (0, 0)) (by (with_reducible repeat (first | refine blk_drewN ?_ _ | refine blk_drew ?_ | refine blk_alloc ?_ _)); exact BK216.out) hb); have n3_ := Aside0.mk (below_step (by repeat (first | (with_reducible first | exact HB.out | apply below_alloc | apply pw_below_drewN | apply below_drew1 | refine below_set ?_ GE216.out) | exact HB.out)) hb); clear HO_5; clear BK216; clear HB; have HO_5 := n0_; have HO225 := n1_; have BK216 := n2_; have HB := n3_; clear n0_ n1_ n2_ n3_; (try clear hb); (try clear hb2); (try clear hk); (try clear hi); (try clear ho0)))
                  repeat (go_quiet (first | (go_at_call 25; (with_reducible refine (impl_StandardCuts.calls k2 t215 t223 _ A31.out).mono ?_); rintro e w32 ⟨v224, rfl, ho0, hb⟩; have n0_ := Aside0.mk (Kd.R_below (by (with_reducible repeat (first | apply Kd.R_alloc | apply Kd.R_drewN | apply Kd.R_drew)); exact HO_5.out) hb); have n1_ := Aside0.mk (Kd.R_lower (Kd.R_newB ho0 (g := gb216) (o := .cells #[.int .i64 t212, .int .i64 t213, .int .i64 t214] 25 (0, 0)) (by (with_reducible repeat (first | refine blk_drewN ?_ _ | refine blk_drew ?_ | refine blk_alloc ?_ _)); exact BK216.out)) (below_size (by repeat (first | (with_reducible first | exact HB.out | apply below_alloc | apply pw_below_drewN | apply below_drew1 | refine below_set ?_ GE216.out) | exact HB.out)))); have n2_ := Aside0.mk (blk_below (g := gb216) (o := .cells #[.int .i64 t212, .int .i64 t213, .int .i64 t214] 25 (0, 0)) (by (with_reducible repeat (first | refine blk_drewN ?_ _ | refine blk_drew ?_ | refine blk_alloc ?_ _)); exact BK216.out) hb); have n3_ := Aside0.mk (below_step (by repeat (first | (with_reducible first | exact HB.out | apply below_alloc | apply pw_below_drewN | apply below_drew1 | refine below_set ?_ GE216.out) | exact HB.out)) hb); clear HO_5; clear BK216; clear HB; have HO_5 := n0_; have HO225 := n1_; have BK216 := n2_; have HB := n3_; clear n0_ n1_ n2_ n3_; (try clear hb); (try clear hb2); (try clear hk); (try clear hi); (try clear ho0))); try go_wp2_with (first | (go_at_call 25; (with_reducible refine (impl_StandardCuts.calls k2 t215 t223 _ A31.out).mono ?_); rintro e w32 ⟨v224, rfl, ho0, hb⟩; have n0_ := Aside0.mk (Kd.R_below (by (with_reducible repeat (first | apply Kd.R_alloc | apply Kd.R_drewN | apply Kd.R_drew)); exact HO_5.out) hb); have n1_ := Aside0.mk (Kd.R_lower (Kd.R_newB ho0 (g := gb216) (o := .cells #[.int .i64 t212, .int .i64 t213, .int .i64 t214] 25 (0, 0)) (by (with_reducible repeat (first | refine blk_drewN ?_ _ | refine blk_drew ?_ | refine blk_alloc ?_ _)); exact BK216.out)) (below_size (by repeat (first | (with_reducible first | exact HB.out | apply below_alloc | apply pw_below_drewN | apply below_drew1 | refine below_set ?_ GE216.out) | exact HB.out)))); have n2_ := Aside0.mk (blk_below (g := gb216) (o := .cells #[.int .i64 t212, .int .i64 t213, .int .i64 t214] 25 (0, 0)) (by (with_reducible repeat (first | refine blk_drewN ?_ _ | refine blk_drew ?_ | refine blk_alloc ?_ _)); exact BK216.out) hb); have n3_ := Aside0.mk (below_step (by repeat (first | (with_reducible first | exact HB.out | apply below_alloc | apply pw_below_drewN | apply below_drew1 | refine below_set ?_ GE216.out) | exact HB.out)) hb); clear HO_5; clear BK216; clear HB; have HO_5 := n0_; have HO225 := n1_; have BK216 := n2_; have HB := n3_; clear n0_ n1_ n2_ n3_; (try clear hb); (try clear hb2); (try clear hk); (try clear hi); (try clear ho0))))
                  go_loopg [8] k2 (fun kq v8 w' => ∃ (x8_3 : Int), v8 = .int .i64 x8_3 ∧ Aside0 (laws_FnKept.l1 kq t223 x8_3 = some r) ∧ Aside0 (kq ≤ k2) ∧ Aside0 (Kd.R k25 25 w' w.heap.size (fun k_ => k_ ≠ gb216) v224 t223) ∧ Aside0 (w'.heap[gb216]? = some (.cells #[.int .i64 t212, .int .i64 t213, .int .i64 t214] 25 (0, 0))) ∧ Aside0 (Below w.heap.size w w'))
                  case atStart => exact ⟨(0), (by first | rfl | (simp; done) | (simp [*]; done)), H', ⟨Nat.le_refl _⟩, ⟨by (with_reducible repeat (first | apply Kd.R_alloc | apply Kd.R_drewN | apply Kd.R_drew)); exact Kd.R_mono HO225.out (fun _ hk => hk.2)⟩, ⟨by (with_reducible repeat (first | refine blk_drewN ?_ _ | refine blk_drew ?_ | refine blk_alloc ?_ _)); exact BK216.out⟩, ⟨by repeat (first | (with_reducible first | exact HB.out | apply below_alloc | apply pw_below_drewN | apply below_drew1 | refine below_set ?_ GE216.out) | exact HB.out)⟩⟩
                  case round =>
                    clear H'
                    try clear c1
                    try clear c2
                    try clear p2
                    try clear q2
                    try clear hx2
                    try clear c3
                    try clear p6
                    try clear c8
                    try clear c12
                    try clear c13
                    try clear c13b0
                    try clear c20
                    try clear c22
                    try clear c22b0
                    try clear c22b1
                    try clear p22
                    try clear q22
                    try clear hx22
                    try clear c24
                    try clear c24b0
                    try clear c25
                    try clear c25b0
                    try clear c26
                    try clear c26b0
                    try clear c28
                    try clear c28b0
                    try clear c29
                    try clear c29b0
                    try clear c30
                    try clear c30b0
                    try clear c30b1
                    try clear c30b2
                    try clear hcz14_0
                    try clear hcz14_1
                    try clear hcz14_2
                    try clear hcz16_0
                    try clear hcz16_1
                    try clear hcz16_2
                    try clear hcz18_0
                    try clear hcz18_1
                    try clear hcz18_2
                    try clear hcz9_0
                    try clear hcz9_1
                    try clear hcz9_2
                    try clear hfz14_0
                    try clear hfz14_1
                    try clear hfz14_2
                    try clear hfz16_0
                    try clear hfz16_1
                    try clear hfz16_2
                    try clear hfz18_0
                    try clear hfz18_1
                    try clear hfz18_2
                    try clear hfz9_0
                    try clear hfz9_1
                    try clear hfz9_2
                    try clear hx221_0
                    try clear hx222_0
                    try clear p2
                    try clear p221
                    try clear p222
                    try clear q221
                    try clear q222
                    obtain ⟨x8_3, rfl, HA, HK3, HO_7, BK216, HB⟩ := hrel
                    cases gk with
                    | zero => exact absurd HA.out (by simp [laws_FnKept.l1])
                    | succ k3 =>
                      have H := HA.out
                      clear HA
                      simp only [laws_FnKept.l1] at H
                      by_cases c33 : x8_3 < (t223.length : Int)
                      · rw [if_pos c33] at H
                        have c33b0 : decide (x8_3 < (t223.length : Int)) = true := decide_eq_true c33
                        clear c33
                        by_cases c34 : 0 ≤ x8_3
                        · rw [if_pos c34] at H
                          have c34b0 : decide (0 ≤ x8_3) = true := decide_eq_true c34
                          clear c34
                          replace H := Option.bind_eq_some_iff.mp H
                          obtain ⟨t227, A350, H⟩ := H
                          replace H : (if t227 = true then (laws_FnKept.l1 k3 t223 (wrap64 (x8_3 + 1))) else (some false)) = some r := H
                          have A35 := Aside0.mk A350
                          clear A350
                          by_cases c36 : t227 = true
                          · subst c36
                            have H1 : (laws_FnKept.l1 k3 t223 (wrap64 (x8_3 + 1))) = some r := by rw [if_pos rfl] at H; exact H
                            clear H
                            have H := H1
                            clear H1
                            have H' := Aside0.mk H
                            clear H
                            obtain ⟨Ao37, co37, eo37⟩ := Kd.R_slice HO_7.out
                            subst eo37
                            have p226 : 0 ≤ (x8_3 : Int) := of_decide_eq_true (by first | (with_reducible assumption) | assumption)
                            have q226 : x8_3 < (t223.length : Int) := of_decide_eq_true (by first | (with_reducible assumption) | assumption)
                            obtain ⟨ad226, e226, hx226_0, hx226_1, hx226_2⟩ := at_T25 (Kd.R_reads' HO_7.out).2.2 x8_3 p226 q226
                            cases e226
                            replace p226 := eq_true p226
                            replace q226 := eq_true q226
                            go_wp2_with (first | (go_at_call 9; (with_reducible refine (spec_ValidCut.calls ((rd_T25 t223 x8_3).f0) ((rd_T25 t223 x8_3).f1) ((rd_T25 t223 x8_3).f2) true _ A35.out).mono ?_); rintro e w38 ⟨rfl, hb⟩; have n0_ := Aside0.mk (Kd.R_below (by (with_reducible repeat (first | apply Kd.R_alloc | apply Kd.R_drewN | apply Kd.R_drew)); exact HO_7.out) hb); have n1_ := Aside0.mk (blk_below (g := gb216) (o := .cells #[.int .i64 t212, .int .i64 t213, .int .i64 t214] 25 (0, 0)) (by (with_reducible repeat (first | refine blk_drewN ?_ _ | refine blk_drew ?_ | refine blk_alloc ?_ _)); exact BK216.out) hb); have n2_ := Aside0.mk (below_step (by repeat (first | (with_reducible first | exact HB.out | apply below_alloc | apply pw_below_drewN | apply below_drew1 | refine below_set ?_ GE216.out) | exact HB.out)) hb); clear HO_7; clear BK216; clear HB; have HO_7 := n0_; have BK216 := n1_; have HB := n2_; clear n0_ n1_ n2_; (try clear hb); (try clear hb2); (try clear hk); (try clear hi)))
                            repeat (go_quiet (first | (go_at_call 9; (with_reducible refine (spec_ValidCut.calls ((rd_T25 t223 x8_3).f0) ((rd_T25 t223 x8_3).f1) ((rd_T25 t223 x8_3).f2) true _ A35.out).mono ?_); rintro e w38 ⟨rfl, hb⟩; have n0_ := Aside0.mk (Kd.R_below (by (with_reducible repeat (first | apply Kd.R_alloc | apply Kd.R_drewN | apply Kd.R_drew)); exact HO_7.out) hb); have n1_ := Aside0.mk (blk_below (g := gb216) (o := .cells #[.int .i64 t212, .int .i64 t213, .int .i64 t214] 25 (0, 0)) (by (with_reducible repeat (first | refine blk_drewN ?_ _ | refine blk_drew ?_ | refine blk_alloc ?_ _)); exact BK216.out) hb); have n2_ := Aside0.mk (below_step (by repeat (first | (with_reducible first | exact HB.out | apply below_alloc | apply pw_below_drewN | apply below_drew1 | refine below_set ?_ GE216.out) | exact HB.out)) hb); clear HO_7; clear BK216; clear HB; have HO_7 := n0_; have BK216 := n1_; have HB := n2_; clear n0_ n1_ n2_; (try clear hb); (try clear hb2); (try clear hk); (try clear hi))); try go_wp2_with (first | (go_at_call 9; (with_reducible refine (spec_ValidCut.calls ((rd_T25 t223 x8_3).f0) ((rd_T25 t223 x8_3).f1) ((rd_T25 t223 x8_3).f2) true _ A35.out).mono ?_); rintro e w38 ⟨rfl, hb⟩; have n0_ := Aside0.mk (Kd.R_below (by (with_reducible repeat (first | apply Kd.R_alloc | apply Kd.R_drewN | apply Kd.R_drew)); exact HO_7.out) hb); have n1_ := Aside0.mk (blk_below (g := gb216) (o := .cells #[.int .i64 t212, .int .i64 t213, .int .i64 t214] 25 (0, 0)) (by (with_reducible repeat (first | refine blk_drewN ?_ _ | refine blk_drew ?_ | refine blk_alloc ?_ _)); exact BK216.out) hb); have n2_ := Aside0.mk (below_step (by repeat (first | (with_reducible first | exact HB.out | apply below_alloc | apply pw_below_drewN | apply below_drew1 | refine below_set ?_ GE216.out) | exact HB.out)) hb); clear HO_7; clear BK216; clear HB; have HO_7 := n0_; have BK216 := n1_; have HB := n2_; clear n0_ n1_ n2_; (try clear hb); (try clear hb2); (try clear hk); (try clear hi))))
                            go_roundg k3
                            case measure => have := HJ5.out; have := HK2.out; have := HK3.out; omega
                            case rel => exact ⟨(wrap64 (x8_3 + 1)), (by first | rfl | (simp; done) | (simp [*]; done)), H', ⟨by have := HJ5.out; have := HK2.out; have := HK3.out; omega⟩, ⟨by (with_reducible repeat (first | apply Kd.R_alloc | apply Kd.R_drewN | apply Kd.R_drew)); exact HO_7.out⟩, ⟨by (with_reducible repeat (first | refine blk_drewN ?_ _ | refine blk_drew ?_ | refine blk_alloc ?_ _)); exact BK216.out⟩, ⟨by repeat (first | (with_reducible first | exact HB.out | apply below_alloc | apply pw_below_drewN | apply below_drew1 | refine below_set ?_ GE216.out) | exact HB.out)⟩⟩
                          · replace c36 := Bool.eq_false_iff.mpr c36
                            subst c36
                            have H1 : (some false) = some r := by rw [if_neg (show ¬ (false = true) by decide)] at H; exact H
                            clear H
                            have H := H1
                            clear H1
                            obtain rfl := Option.some.inj H
                            obtain ⟨Ao39, co39, eo39⟩ := Kd.R_slice HO_7.out
                            subst eo39
                            have p226 : 0 ≤ (x8_3 : Int) := of_decide_eq_true (by first | (with_reducible assumption) | assumption)
                            have q226 : x8_3 < (t223.length : Int) := of_decide_eq_true (by first | (with_reducible assumption) | assumption)
                            obtain ⟨ad226, e226, hx226_0, hx226_1, hx226_2⟩ := at_T25 (Kd.R_reads' HO_7.out).2.2 x8_3 p226 q226
                            cases e226
                            replace p226 := eq_true p226
                            replace q226 := eq_true q226
                            go_wp2_with (first | (go_at_call 9; (with_reducible refine (spec_ValidCut.calls ((rd_T25 t223 x8_3).f0) ((rd_T25 t223 x8_3).f1) ((rd_T25 t223 x8_3).f2) false _ A35.out).mono ?_); rintro e w40 ⟨rfl, hb⟩; have n0_ := Aside0.mk (Kd.R_below (by (with_reducible repeat (first | apply Kd.R_alloc | apply Kd.R_drewN | apply Kd.R_drew)); exact HO_7.out) hb); have n1_ := Aside0.mk (blk_below (g := gb216) (o := .cells #[.int .i64 t212, .int .i64 t213, .int .i64 t214] 25 (0, 0)) (by (with_reducible repeat (first | refine blk_drewN ?_ _ | refine blk_drew ?_ | refine blk_alloc ?_ _)); exact BK216.out) hb); have n2_ := Aside0.mk (below_step (by repeat (first | (with_reducible first | exact HB.out | apply below_alloc | apply pw_below_drewN | apply below_drew1 | refine below_set ?_ GE216.out) | exact HB.out)) hb); clear HO_7; clear BK216; clear HB; have HO_7 := n0_; have BK216 := n1_; have HB := n2_; clear n0_ n1_ n2_; (try clear hb); (try clear hb2); (try clear hk); (try clear hi)))
                            repeat (go_quiet (first | (go_at_call 9; (with_reducible refine (spec_ValidCut.calls ((rd_T25 t223 x8_3).f0) ((rd_T25 t223 x8_3).f1) ((rd_T25 t223 x8_3).f2) false _ A35.out).mono ?_); rintro e w40 ⟨rfl, hb⟩; have n0_ := Aside0.mk (Kd.R_below (by (with_reducible repeat (first | apply Kd.R_alloc | apply Kd.R_drewN | apply Kd.R_drew)); exact HO_7.out) hb); have n1_ := Aside0.mk (blk_below (g := gb216) (o := .cells #[.int .i64 t212, .int .i64 t213, .int .i64 t214] 25 (0, 0)) (by (with_reducible repeat (first | refine blk_drewN ?_ _ | refine blk_drew ?_ | refine blk_alloc ?_ _)); exact BK216.out) hb); have n2_ := Aside0.mk (below_step (by repeat (first | (with_reducible first | exact HB.out | apply below_alloc | apply pw_below_drewN | apply below_drew1 | refine below_set ?_ GE216.out) | exact HB.out)) hb); clear HO_7; clear BK216; clear HB; have HO_7 := n0_; have BK216 := n1_; have HB := n2_; clear n0_ n1_ n2_; (try clear hb); (try clear hb2); (try clear hk); (try clear hi))); try go_wp2_with (first | (go_at_call 9; (with_reducible refine (spec_ValidCut.calls ((rd_T25 t223 x8_3).f0) ((rd_T25 t223 x8_3).f1) ((rd_T25 t223 x8_3).f2) false _ A35.out).mono ?_); rintro e w40 ⟨rfl, hb⟩; have n0_ := Aside0.mk (Kd.R_below (by (with_reducible repeat (first | apply Kd.R_alloc | apply Kd.R_drewN | apply Kd.R_drew)); exact HO_7.out) hb); have n1_ := Aside0.mk (blk_below (g := gb216) (o := .cells #[.int .i64 t212, .int .i64 t213, .int .i64 t214] 25 (0, 0)) (by (with_reducible repeat (first | refine blk_drewN ?_ _ | refine blk_drew ?_ | refine blk_alloc ?_ _)); exact BK216.out) hb); have n2_ := Aside0.mk (below_step (by repeat (first | (with_reducible first | exact HB.out | apply below_alloc | apply pw_below_drewN | apply below_drew1 | refine below_set ?_ GE216.out) | exact HB.out)) hb); clear HO_7; clear BK216; clear HB; have HO_7 := n0_; have BK216 := n1_; have HB := n2_; clear n0_ n1_ n2_; (try clear hb); (try clear hb2); (try clear hk); (try clear hi))))
                            go_ret
                            exact ⟨by first | rfl | (simp [errW_none, errW_some] <;> rfl) | (simp [*, errW_none, errW_some] <;> rfl), by repeat (first | (with_reducible first | exact HB.out | apply below_alloc | apply pw_below_drewN | apply below_drew1 | refine below_set ?_ GE216.out) | exact HB.out)⟩
                        · rw [if_neg c34] at H
                          exact absurd H (by simp)
                      · rw [if_neg c33] at H
                        have c33b0 : decide (x8_3 < (t223.length : Int)) = false := decide_eq_false c33
                        clear c33
                        obtain rfl := Option.some.inj H
                        obtain ⟨Ao41, co41, eo41⟩ := Kd.R_slice HO_7.out
                        subst eo41
                        go_wp2
                        repeat (go_quiet (fail); try go_wp2)
                        go_ret
                        exact ⟨by first | rfl | (simp [errW_none, errW_some] <;> rfl) | (simp [*, errW_none, errW_some] <;> rfl), by repeat (first | (with_reducible first | exact HB.out | apply below_alloc | apply pw_below_drewN | apply below_drew1 | refine below_set ?_ GE216.out) | exact HB.out)⟩
          · rw [if_neg c22] at H
            have c22b0 : ((t217.length : Int) == t215) = false := beq_eq_false_iff_ne.mpr c22
            have c22b1 : ((t217.length : Int) != t215) = true := bne_iff_ne.mpr c22
            obtain rfl := Option.some.inj H
            obtain ⟨Ao42, co42, eo42⟩ := Kd.R_slice HO_5.out
            subst eo42
            go_wp2
            repeat (go_quiet (fail); try go_wp2)
            go_ret
            exact ⟨by first | rfl | (simp [errW_none, errW_some] <;> rfl) | (simp [*, errW_none, errW_some] <;> rfl), by repeat (first | (with_reducible first | exact HB.out | apply below_alloc | apply pw_below_drewN | apply below_drew1 | refine below_set ?_ GE216.out) | exact HB.out)⟩

/-- THE ONE PURE STATEMENT of laws_FnKept: yours. -/
def laws_FnKept.Pure : Prop := ∀ (l0 : List Int), l0.length ≤ maxLen → l0.length * 1 ≤ 140737488351232 → (∀ x ∈ l0, (Lit.int .u8 x).wf = true) → ∃ k, laws_FnKept.f k l0 = some true
theorem laws_FnKept.walk (P : laws_FnKept.Pure) (a0 : Option Addr) (len0 cap0 : Nat) (z0 : List Int) (w : World) (w0 : (a0 = none ∧ len0 = 0 ∧ cap0 = 0 ∧ z0 = []) ∨ ∃ x, a0 = some x ∧ len0 ≤ cap0 ∧ cap0 ≤ maxLen ∧ z0.length = cap0 ∧ (∀ i, i < z0.length → w.cell? (x.add i) = some (.int .u8 (z0.getD i 0))) ∧ ∀ n ∈ z0, (Lit.int .u8 n).wf = true) (y0 : len0 * 1 ≤ 140737488351232) :
    Calls Try.prog 8 #[.slice a0 len0 cap0] w fun e w' => e = .returned (.bool true) ∧ Below w.heap.size w w' := by
  obtain ⟨l0, rfl, hr0, hm0, hw0, hc0⟩ := ReadsInt.ofRowC w0
  obtain ⟨k, h⟩ := P l0 hm0 y0 hw0
  refine (laws_FnKept.calls k _ _ l0 true w (Kd.C_of_reads (d := (0 : Int)) (h1 := fun _ => rfl) hr0) hc0 h).mono ?_
  rintro e w' ⟨rfl, hd⟩
  exact ⟨rfl, hd⟩

end Go.Proofs.Ytpachmimhampfaa.PFnKept
